/- A part of the proof of Rows.PlayDecodesCardSaid; the conditions are that card's own. -/
import Derived.Test.YtmhkpafkadijgaaGreatDoorQ29
set_option linter.all false
set_option maxRecDepth 100000
set_option maxHeartbeats 4000000
namespace Go.Proofs.YtmhkpafkadijgaaGreatDoor.Gw
open Go.IntKind renaming wrap→I,i64→W
open Go Go.RowKit
variable[de]
open Go.IntKind (i8 i16 i32 i64 u8 u16 u32 u64)
open Tryz hiding prog
open Tryz renaming prog → aa
variable{w0:World}{k:Nat}{v0_ v1_ v2_ v3_:Value}
def RY.l0:Nat→List Int→(List Int×List Int)→List (Int)→Int→Option (List Int)
 |0,_,_,_,_=>none
 |k+1,a1,x2,l1,x1=>bif decide (x1<(x2.1.length:Int))then(an (decide ((0:Int)≤x1∧x1<(x2.2.length:Int))) (an (decide ((0:Int)≤x1∧x1<(x2.1.length:Int))) ((RI.f k a1 (at_ 0 x2.1 x1)).bind fun x3=>(ik.f k (at_ 0 x2.2 x1) x3).bind fun x4=>an (decide ((l1.length+([x4]).length)*1≤140737488355328)) (RY.l0 k a1 x2 (l1++([x4])) (I W (x1+1))))))else(some l1)
def RY.f(k:Nat)(a0:Int×Int×Int)(a1:List Int):Option (List Int):=(j6.f k (a0.1,a0.2.1,a0.2.2)).bind fun x2=>RY.l0 k a1 x2 ([]:List Int) 0
theorem RY.calls{a0:Int×Int×Int}{a1:List Int}{r:List Int}(h1:Zf no w0 v1_ a1)(E:RY.f k a0 a1=some r):
 Calls aa 26 #[.agg #[ii a0.1,ii a0.2.1,ii a0.2.2],v1_] w0 fun e w'=>∃(u0:Value),e= .returned (u0)∧St no w0 w' [Y9 u0 r]:=by
 have H:=St.nil no w0
 unfold RY.f at E
 refine Zb func26 ?_
 refine rg (ye (bc (cs:=#[ii a0.1,ii a0.2.1,ii a0.2.2]) H z (fun b1 w H=>A_ ?_)))
 refine vr (bp (l:=[ii a0.1,ii a0.2.1,ii a0.2.2]) cv (H.Gt 0 z) z z z) ?_
 obtain⟨x2,E3,E⟩:=ay E
 refine ye (au Ut z ((j6.calls E3).mono ?_))
 rintro _ w ⟨v4,v5,rfl,K⟩
 have H:=H.app K
 refine⟨_,z,A_ ?_⟩
 have H:=H.bB (.int .u8) 5
 refine bx (fun kk t w=>∃(l1:List Int)(x1:Int)(v1:Value)(t1:Fr),kk≤k∧RY.l0 kk a1 x2 l1 x1=some r∧t=aU t1 [(1,v1_),(4,sn),(5,v4),(6,v5),(7,v1),(8,ii x1),Zc]∧St no w0 w [.blk b1 #[ii a0.1,ii a0.2.1,ii a0.2.2] 24,Y9 v4 x2.1,Y9 v5 x2.2,Y9 v1 l1]) k Ze ?_
 rintro kk t w ⟨l1,x1,v1,t1,hk1,E,rfl,H⟩
 obtain⟨k1,rfl⟩:=Zd kk
 rw[RY.l0]at E
 refine A_ ?_
 refine aE E z ?_ ?_<;>intro c1 E<;>refine A_ ?_
 ·refine eZ (ds:=[]) (fun w=>∃(v':Value)(l':List Int),St no w0 w [.blk b1 #[ii a0.1,ii a0.2.1,ii a0.2.2] 24,Y9 v4 x2.1,Y9 v5 x2.2,Y9 v' l']) bZ H z z ?_
  have H:=H.drew
  refine B_ [0,1,2] ⟨_,_,H⟩ ?_
  obtain⟨⟨g1,g2⟩,E⟩:=ar E
  refine B_ [3,4,5,6,7] ⟨_,_,H⟩ ?_
  obtain⟨⟨g3,g4⟩,E⟩:=ar E
  refine B_ [8,9] ⟨_,_,H⟩ ?_
  refine wo 10 z (E9 TC H E (fun _=>RI.calls (H.arg (H.rd h1))) (fun x3 E w H=>⟨fun _=>⟨_,_,H.Y8 [0,1,2,3]⟩,?_⟩))
  refine wo 11 z (E9 rC H E (fun _=>ik.calls) (fun x4 E w H=>⟨fun _=>⟨_,_,H.Y8 [0,1,2,3]⟩,wo 12 z (cL (e:=(.int .u8)) (l:=[x4]) aN H z f_ ⟨z,z,acu⟩ f_ (fun v2 w H=>⟨fun _=>⟨_,_,H.Y8 [0,1,2,3]⟩,?_⟩))⟩))
  obtain⟨g5,E⟩:=ar E
  refine wo 13 z (dZ aN H 3 z (ao (H.Gt 4 z)) z z a_ u_ (fun v3 w H=>⟨fun _=>⟨_,_,H.Y8 [0,1,2,3]⟩,B_ [14] ⟨_,_,H.Y8 [0,1,2,3]⟩ ?_⟩))
  exact⟨k1,bL _,_,_,_,_,bK hk1,E,Za,H.Y8 [0,1,2,3]⟩
 cases E
 exact⟨.inl z,_,tk0 z ⟨aB z (ad ai),_,z,H.bA 3 z⟩⟩
def RX.l0:Nat→List Int→List Int→Int→Option (Bool)
 |0,_,_,_=>none
 |k+1,a1,x1,x2=>bif decide (x2<(x1.length:Int))then(an (decide ((0:Int)≤x2∧x2<(x1.length:Int))) ((RI.f k a1 (at_ 0 x1 x2)).bind fun x3=>bif !decide (x3=0)then(some false)else(RX.l0 k a1 x1 (I W (x2+1)))))else(some true)
def RX.f(k:Nat)(a0:Int×Int×Int)(a1:List Int):Option (Bool):=(kC.f (a0.1,a0.2.1,a0.2.2)).bind fun x6=>bif !decide (x6=0)then(some false)else(bif !decide ((a1.length:Int)=a0.1)then(some false)else((js.f k (a0.1,a0.2.1,a0.2.2)).bind fun x1=>RX.l0 k a1 x1 0))
theorem RX.calls{a0:Int×Int×Int}{a1:List Int}{r:Bool}(h1:Zf no w0 v1_ a1)(E:RX.f k a0 a1=some r):
 Calls aa 62 #[.agg #[ii a0.1,ii a0.2.1,ii a0.2.2],v1_] w0 fun e w'=>e= .returned (.bool r)∧St no w0 w' []:=by
 have H:=St.nil no w0
 unfold RX.f at E
 refine Zb func62 ?_
 refine rg (ye (bc (cs:=#[ii a0.1,ii a0.2.1,ii a0.2.2]) H z (fun b1 w H=>A_ ?_)))
 refine vr (bp (l:=[ii a0.1,ii a0.2.1,ii a0.2.2]) cv (H.Gt 0 z) z z z) ?_
 refine ye (E9 vT H E (fun _=>kC.calls) (fun x6 E w H=>A_ ?_))
 rcases bR (!decide (x6=0))with c8|c8
 ·have E:=iT c8 E
  refine A_ ?_
  cases E
  exact(aL ⟨.inl z,_,tk0 z ⟨aB z (ad ai),z,H.bs⟩⟩)
 have E:=iF c8 E
 refine A_ ?_
 refine aE E z ?_ ?_<;>intro c9 E
 ·refine A_ ?_
  cases E
  exact(aL ⟨.inl z,_,tk0 z ⟨aB z (ad ai),z,H.bs⟩⟩)
 refine aA (ab (rg (vr (bp (l:=[ii a0.1,ii a0.2.1,ii a0.2.2]) cv (H.Gt 0 z) z z z) ?_)))
 refine ye (YM Ks H E (fun _=>js.calls) (fun x1 E v1 w H=>A_ ?_))
 refine bx (fun kk t w=>∃(x2:Int)(t1:Fr),kk≤k∧RX.l0 kk a1 x1 x2=some r∧t=aU t1 [(1,v1_),(4,.bool false),(5,v1),(6,ii x2),Zc]∧St no w0 w [.blk b1 #[ii a0.1,ii a0.2.1,ii a0.2.2] 24,Y9 v1 x1]) k Ze ?_
 rintro kk t w ⟨x2,t1,hk1,E,rfl,H⟩
 obtain⟨k28,rfl⟩:=Zd kk
 rw[RX.l0]at E
 refine A_ ?_
 refine aE E z ?_ ?_<;>intro c1 E<;>refine A_ ?_
 ·obtain⟨⟨g1,g2⟩,E⟩:=ar E
  refine A_ ?_
  refine ye (E9 TC H E (fun _=>RI.calls (H.arg (H.rd h1))) (fun x3 E w H=>A_ ?_))
  refine aE E z ?_ ?_<;>intro c2 E<;>refine A_ ?_
  ·cases E
   exact(bG (aL (aL (bG (aL ⟨.inl z,_,tk0 z ⟨aB z (ad ai),z,H.bs⟩⟩)))))
  exact⟨k28,bL _,_,_,bK hk1,E,Za,H⟩
 cases E
 exact⟨.inl z,_,tk0 z ⟨aB z (ad ai),z,H.bs⟩⟩
def SP.f(a0:Int×Int×Int)(a1 a2:Int):Option (Bool):=(lR.f (a0.1,a0.2.1,a0.2.2)).bind fun x2=>(kC.f (a0.1,a0.2.1,a0.2.2)).bind fun x4=>bif decide (x4=0)then(bif decide (0≤a1)then(bif decide (0≤a2)then(bif decide (a1≤x2)then(bif decide (a2≤x2)then(some (decide (I W (I W (2*a1)+a2)≤x2)))else(some false))else(some false))else(some false))else(some false))else(some false)
theorem SP.calls{a0:Int×Int×Int}{a1 a2:Int}{r:Bool}(E:SP.f a0 a1 a2=some r):
 Calls aa 63 #[.agg #[ii a0.1,ii a0.2.1,ii a0.2.2],ii a1,ii a2] w0 fun e w'=>e= .returned (.bool r)∧St no w0 w' []:=by
 have H:=St.nil no w0
 unfold SP.f at E
 refine Zb func63 ?_
 refine rg (ye (bc (cs:=#[ii a0.1,ii a0.2.1,ii a0.2.2]) H z (fun b1 w H=>A_ ?_)))
 refine vr (bp (l:=[ii a0.1,ii a0.2.1,ii a0.2.2]) cv (H.Gt 0 z) z z z) ?_
 refine ye (E9 A6 H E (fun _=>lR.calls) (fun x2 E w H=>A_ ?_))
 refine vr (bp (l:=[ii a0.1,ii a0.2.1,ii a0.2.2]) cv (H.Gt 0 z) z z z) ?_
 refine ye (E9 vT H E (fun _=>kC.calls) (fun x4 E w H=>A_ ?_))
 rcases bR (decide (x4=0))with c6|c6
 ·have E:=iT c6 E
  refine A_ ?_
  rcases bR (decide (0≤a1))with c7|c7
  ·have E:=iT c7 E
   refine A_ ?_
   rcases bR (decide (0≤a2))with c8|c8
   ·have E:=iT c8 E
    refine A_ ?_
    rcases bR (decide (a1≤x2))with c9|c9
    ·have E:=iT c9 E
     refine A_ ?_
     rcases bR (decide (a2≤x2))with c1|c1
     ·have E:=iT c1 E
      refine A_ ?_
      cases E
      exact⟨.inl z,_,tk0 z ⟨aB z (ad ai),z,H.bs⟩⟩
     have E:=iF c1 E
     refine A_ ?_
     cases E
     exact⟨.inl z,_,tk0 z ⟨aB z (ad ai),z,H.bs⟩⟩
    have E:=iF c9 E
    refine A_ ?_
    cases E
    exact⟨.inl z,_,tk0 z ⟨aB z (ad ai),z,H.bs⟩⟩
   have E:=iF c8 E
   refine A_ ?_
   cases E
   exact⟨.inl z,_,tk0 z ⟨aB z (ad ai),z,H.bs⟩⟩
  have E:=iF c7 E
  refine A_ ?_
  cases E
  exact⟨.inl z,_,tk0 z ⟨aB z (ad ai),z,H.bs⟩⟩
 have E:=iF c6 E
 refine A_ ?_
 cases E
 exact⟨.inl z,_,tk0 z ⟨aB z (ad ai),z,H.bs⟩⟩
def RP.l0:Nat→List Int→List Int→List (Int)→Int→Option (List Int)
 |0,_,_,_,_=>none
 |k+1,a0,a1,l1,x1=>bif decide (x1<(a0.length:Int))then(bif decide (x1<(a1.length:Int))then(an (decide ((0:Int)≤x1∧x1<(a0.length:Int))) (an (decide ((0:Int)≤x1∧x1<(a1.length:Int))) (bif !decide (at_ 0 a0 x1=at_ 0 a1 x1)then(an (decide ((l1.length+([x1]).length)*8≤140737488355328)) (RP.l0 k a0 a1 (l1++([x1])) (I W (x1+1))))else(RP.l0 k a0 a1 l1 (I W (x1+1))))))else(some l1))else(some l1)
def RP.f(k:Nat)(a0 a1:List Int):Option (List Int):=RP.l0 k a0 a1 ([]:List Int) 0
theorem RP.calls{a0 a1:List Int}{r:List Int}(h0:Zf no w0 v0_ a0)(h1:Zf no w0 v1_ a1)(E:RP.f k a0 a1=some r):
 Calls aa 29 #[v0_,v1_] w0 fun e w'=>∃(u0:Value),e= .returned (u0)∧St no w0 w' [Zh u0 r]:=by
 have H:=St.nil no w0
 unfold RP.f at E
 refine Zb func29 ?_
 refine A_ ?_
 have H:=H.bB (.int .i64) 3
 refine bx (fun kk t w=>∃(l1:List Int)(x1:Int)(v1:Value)(t1:Fr),kk≤k∧RP.l0 kk a0 a1 l1 x1=some r∧t=aU t1 [(0,v0_),(1,v1_),(4,sn),(5,v1),(6,ii x1),Zc]∧St no w0 w [Zh v1 l1]) k Ze ?_
 rintro kk t w ⟨l1,x1,v1,t1,hk1,E,rfl,H⟩
 obtain⟨k1,rfl⟩:=Zd kk
 rw[RP.l0]at E
 refine A_ ?_
 rcases bR (decide (x1<(a0.length:Int)))with c1|c1
 ·have E:=iT c1 E
  refine A_ ?_
  refine aE E z ?_ ?_<;>intro c2 E<;>refine A_ ?_
  ·refine cd (ds:=[]) bZ H z z ?_
   have H:=H.drew
   refine B_ [0,1] H ?_
   obtain⟨⟨g1,g2⟩,E⟩:=ar E
   refine B_ [2,3,4,5] H ?_
   obtain⟨⟨g3,g4⟩,E⟩:=ar E
   refine B_ [6,7,8] H ?_
   refine aE E z ?_ ?_<;>intro c3 E<;>refine A_ ?_
   ·refine ye (cL (e:=(.int .i64)) (l:=[x1]) gl H z f_ ⟨z,z,acu⟩ f_ (fun v2 w H=>?_))
    obtain⟨g5,E⟩:=ar E
    refine ye (dZ gl H 0 z (ao (H.Gt 1 z)) z z a_ u_ (fun v3 w H=>A_ ?_))
    exact⟨k1,bL _,_,_,_,_,bK hk1,E,Za,H.Y8 [0]⟩
   exact⟨k1,bL _,_,_,_,_,bK hk1,E,Za,H⟩
  cases E
  exact⟨.inl z,_,tk0 z ⟨aB z (ad ai),_,z,H.bA 0 z⟩⟩
 have E:=iF c1 E
 refine A_ ?_
 cases E
 exact⟨.inl z,_,tk0 z ⟨aB z (ad ai),_,z,H.bA 0 z⟩⟩
def RV.l0:Nat→List Int→List Int→Int→Int→Option (Int)
 |0,_,_,_,_=>none
 |k+1,a2,x1,x2,x3=>bif decide (x3<(x1.length:Int))then(an (decide ((0:Int)≤x3∧x3<(x1.length:Int))) ((Ry.f k a2 (at_ 0 x1 x3)).bind fun x4=>bif decide (x4<0)then(RV.l0 k a2 x1 (I W (x2+1)) (I W (x3+1)))else(RV.l0 k a2 x1 x2 (I W (x3+1)))))else(some x2)
def RV.f(k:Nat)(a0 a1 a2:List Int):Option (Int):=(RP.f k a0 a1).bind fun x1=>RV.l0 k a2 x1 0 0
theorem RV.calls{a0 a1 a2:List Int}{r:Int}(h0:Zf no w0 v0_ a0)(h1:Zf no w0 v1_ a1)(h2:Rd (.of (.int .i64)) w0 (Ol no w0) v2_ a2)(E:RV.f k a0 a1 a2=some r):
 Calls aa 64 #[v0_,v1_,v2_] w0 fun e w'=>e= .returned (ii r)∧St no w0 w' []:=by
 have H:=St.nil no w0
 unfold RV.f at E
 refine Zb func64 ?_
 refine A_ ?_
 refine ye (YM Uu H E (fun _=>RP.calls (H.arg (H.rd h0)) (H.arg (H.rd h1))) (fun x1 E v3 w H=>A_ ?_))
 refine bx (fun kk t w=>∃(x2 x3:Int)(t1:Fr),kk≤k∧RV.l0 kk a2 x1 x2 x3=some r∧t=aU t1 [(2,v2_),(6,ii 0),(7,ii x2),(8,v3),(9,ii x3),Zc]∧St no w0 w [Zh v3 x1]) k Ze ?_
 rintro kk t w ⟨x2,x3,t1,hk1,E,rfl,H⟩
 obtain⟨k20,rfl⟩:=Zd kk
 rw[RV.l0]at E
 refine A_ ?_
 refine aE E z ?_ ?_<;>intro c1 E<;>refine A_ ?_
 ·obtain⟨⟨g1,g2⟩,E⟩:=ar E
  refine A_ ?_
  refine ye (E9 S7 H E (fun _=>Ry.calls (H.arg (H.rd h2))) (fun x4 E w H=>A_ ?_))
  refine aE E z ?_ ?_<;>intro c2 E<;>refine A_ ?_
  ·exact⟨k20,bL _,_,_,_,bK hk1,E,Za,H⟩
  exact⟨k20,bL _,_,_,_,bK hk1,E,Za,H⟩
 cases E
 exact⟨.inl z,_,tk0 z ⟨aB z (ad ai),z,H.bs⟩⟩
def SD.f(k:Nat)(a0:Int×Int×Int)(a1 a2 a3:List Int):Option (Bool):=(kC.f (a0.1,a0.2.1,a0.2.2)).bind fun x2=>bif decide (x2=0)then(bif decide ((a1.length:Int)=a0.1)then((RO.f k (a0.1,a0.2.1,a0.2.2) a2).bind fun x6=>bif decide (x6=0)then((RX.f k (a0.1,a0.2.1,a0.2.2) a3).bind fun x9=>bif x9 then((RV.f k a1 a3 a2).bind fun x1=>(SP.f (a0.1,a0.2.1,a0.2.2) x1 (a2.length:Int)).bind fun x3=>some x3)else(some false))else(some false))else(some false))else(some false)
theorem SD.calls{a0:Int×Int×Int}{a1 a2 a3:List Int}{r:Bool}(h1:Zf no w0 v1_ a1)(h2:Rd (.of (.int .i64)) w0 (Ol no w0) v2_ a2)(h3:Zf no w0 v3_ a3)(E:SD.f k a0 a1 a2 a3=some r):
 Calls aa 27 #[.agg #[ii a0.1,ii a0.2.1,ii a0.2.2],v1_,v2_,v3_] w0 fun e w'=>e= .returned (.bool r)∧St no w0 w' []:=by
 have H:=St.nil no w0
 unfold SD.f at E
 refine Zb func27 ?_
 refine rg (ye (bc (cs:=#[ii a0.1,ii a0.2.1,ii a0.2.2]) H z (fun b1 w H=>A_ ?_)))
 refine cd (ds:=[]) bZ H z z ?_
 have H:=H.drew
 refine wz 0 z H (fun w H=>bp (l:=[ii a0.1,ii a0.2.1,ii a0.2.2]) cv (H.Gt 0 z) z z z) ?_
 refine wo 1 z (E9 vT H E (fun _=>kC.calls) (fun x2 E w H=>⟨fun _=>H.Y8 [0],B_ [2,3] (H.Y8 [0]) ?_⟩))
 rcases bR (decide (x2=0))with c4|c4
 ·have E:=iT c4 E
  refine B_ [4,5,6,7,8,9,10] (H.Y8 [0]) ?_
  rcases bR (decide ((a1.length:Int)=a0.1))with c5|c5
  ·have E:=iT c5 E
   refine wn 11 z z z c5 (H.Y8 [0]) (fun w H=>bp (l:=[ii a0.1,ii a0.2.1,ii a0.2.2]) cv (H.Gt 0 z) z z z) (B_ [12] (H.Y8 [0]) ?_)
   refine wp 13 z z z c5 (E9 Us H E (fun _=>RO.calls (H.arg (H.rd h2))) (fun x6 E w H=>⟨fun _=>H.Y8 [0],B_ [14,15,16] (H.Y8 [0]) ?_⟩))
   rcases bR (decide (x6=0))with c8|c8
   ·have E:=iT c8 E
    refine wn 17 z z z c8 (H.Y8 [0]) (fun w H=>bp (l:=[ii a0.1,ii a0.2.1,ii a0.2.2]) cv (H.Gt 0 z) z z z) (B_ [18] (H.Y8 [0]) ?_)
    refine wp 19 z z z c8 (E9 W1 H E (fun _=>RX.calls (H.arg (H.rd h3))) (fun x9 E w H=>⟨fun _=>H.Y8 [0],B_ [20,21] (H.Y8 [0]) ?_⟩))
    rcases bR (x9)with c1|c1
    ·have E:=iT c1 E
     refine wn 22 z z z c1 (H.Y8 [0]) (fun w H=>bp (l:=[ii a0.1,ii a0.2.1,ii a0.2.2]) cv (H.Gt 0 z) z z z) (B_ [23,24,25,27,28] (H.Y8 [0]) ?_)
     refine wp 26 z z z c1 (E9 W3 H E (fun _=>RV.calls (H.arg (H.rd h1)) (H.arg (H.rd h3)) (H.arg (H.rd h2))) (fun x1 E w H=>⟨fun _=>H.Y8 [0],?_⟩))
     have H:St _ _ _ [_]:=H
     refine wp 29 z z z c1 (E9 W2 H E (fun _=>SP.calls) (fun x3 E w H=>⟨fun _=>H.Y8 [0],B_ [30,31] (H.Y8 [0]) ?_⟩))
     cases E
     exact⟨.inl z,_,tk0 z ⟨aB z (ad ai),z,H.bs⟩⟩
    have E:=iF c1 E
    refine B_ [22,23,24,25,26,27,28,29,30,31] (H.Y8 [0]) ?_
    cases E
    exact⟨.inl z,_,tk0 z ⟨aB z (ad ai),z,H.bs⟩⟩
   have E:=iF c8 E
   refine B_ [17,18,19,20,21,22,23,24,25,26,27,28,29,30,31] (H.Y8 [0]) ?_
   cases E
   exact⟨.inl z,_,tk0 z ⟨aB z (ad ai),z,H.bs⟩⟩
  have E:=iF c5 E
  refine B_ [11,12,13,14,15,16,17,18,19,20,21,22,23,24,25,26,27,28,29,30,31] (H.Y8 [0]) ?_
  cases E
  exact⟨.inl z,_,tk0 z ⟨aB z (ad ai),z,H.bs⟩⟩
 have E:=iF c4 E
 refine B_ [4,5,6,7,8,9,10,11,12,13,14,15,16,17,18,19,20,21,22,23,24,25,26,27,28,29,30,31] (H.Y8 [0]) ?_
 cases E
 exact⟨.inl z,_,tk0 z ⟨aB z (ad ai),z,H.bs⟩⟩
def Rp.j0(k:Nat)(a0:Int×Int×Int)(a1 a2:List Int)(l1 l2:List Int):Option (List Int×Bool):=(RJ.f k l1 l2 a0.2.1).bind fun x1=>bif !x1.2 then(some (([]:List Int),false))else((RY.f k (a0.1,a0.2.1,a0.2.2) x1.1).bind fun x2=>(SD.f k (a0.1,a0.2.1,a0.2.2) a1 a2 x2).bind fun x3=>some (x2,x3))
def Rp.l0:Nat→(Int×Int×Int)→List Int→List Int→(List Int×List Int)→List (Int)→List (Int)→Int→Option (List Int×Bool)
 |0,_,_,_,_,_,_,_=>none
 |k+1,a0,a1,a2,x1,l1,l2,x2=>bif decide (x2<a0.1)then((Ry.f k a2 x2).bind fun x3=>bif decide (x3<0)then(an (decide ((0:Int)≤x2∧x2<(x1.1.length:Int))) (an (decide ((l1.length+([at_ 0 x1.1 x2]).length)*1≤140737488355328)) (an (decide ((0:Int)≤x2∧x2<(a1.length:Int))) (an (decide ((0:Int)≤x2∧x2<(x1.2.length:Int))) ((oz.f k (at_ 0 a1 x2) (at_ 0 x1.2 x2)).bind fun x4=>an (decide ((l2.length+([x4]).length)*1≤140737488355328)) (Rp.l0 k a0 a1 a2 x1 (l1++([at_ 0 x1.1 x2])) (l2++([x4])) (I W (x2+1))))))))else(Rp.l0 k a0 a1 a2 x1 l1 l2 (I W (x2+1))))else(Rp.j0 k a0 a1 a2 l1 l2)
def Rp.f(k:Nat)(a0:Int×Int×Int)(a1 a2:List Int):Option (List Int×Bool):=(kC.f (a0.1,a0.2.1,a0.2.2)).bind fun x1=>bif !decide (x1=0)then(some (([]:List Int),false))else(bif !decide ((a1.length:Int)=a0.1)then(some (([]:List Int),false))else((RO.f k (a0.1,a0.2.1,a0.2.2) a2).bind fun x2=>bif !decide (x2=0)then(some (([]:List Int),false))else(bif decide (I W (a0.1-a0.2.1)<(a2.length:Int))then(some (([]:List Int),false))else((j6.f k (a0.1,a0.2.1,a0.2.2)).bind fun x3=>Rp.l0 k a0 a1 a2 x3 ([]:List Int) ([]:List Int) 0))))
theorem Rp.calls{a0:Int×Int×Int}{a1 a2:List Int}{r:List Int×Bool}(h1:Zf no w0 v1_ a1)(h2:Rd (.of (.int .i64)) w0 (Ol no w0) v2_ a2)(E:Rp.f k a0 a1 a2=some r):
 Calls aa 7 #[.agg #[ii a0.1,ii a0.2.1,ii a0.2.2],v1_,v2_] w0 fun e w'=>∃(u0:Value),e= .returned (.tuple #[u0,.bool r.2])∧St no w0 w' [Y9 u0 r.1]:=by
 have H:=St.nil no w0
 unfold Rp.f at E
 refine Zb func7 ?_
 refine rg (ye (bc (cs:=#[ii a0.1,ii a0.2.1,ii a0.2.2]) H z (fun b1 w H=>A_ ?_)))
 refine vr (bp (l:=[ii a0.1,ii a0.2.1,ii a0.2.2]) cv (H.Gt 0 z) z z z) ?_
 refine ye (E9 vT H E (fun _=>kC.calls) (fun x1 E w H=>A_ ?_))
 rcases bR (!decide (x1=0))with c1|c1
 ·have E:=iT c1 E
  refine A_ ?_
  have H:=H.bB (.int .u8) 5
  cases E
  exact(aL ⟨.inl z,_,tk0 z ⟨aB z (ad (ad ai)),_,z,H.bA 1 z⟩⟩)
 have E:=iF c1 E
 refine A_ ?_
 rcases bR (!decide ((a1.length:Int)=a0.1))with c2|c2
 ·have E:=iT c2 E
  refine A_ ?_
  have H:=H.bB (.int .u8) 5
  cases E
  exact(aL ⟨.inl z,_,tk0 z ⟨aB z (ad (ad ai)),_,z,H.bA 1 z⟩⟩)
 have E:=iF c2 E
 refine oo c2 z (bp (l:=[ii a0.1,ii a0.2.1,ii a0.2.2]) cv (H.Gt 0 z) z z z) (A_ ?_)
 refine dP z c2 z (E9 Us H E (fun _=>RO.calls (H.arg (H.rd h2))) (fun x2 E w H=>A_ ?_))
 rcases bR (!decide (x2=0))with c3|c3
 ·have E:=iT c3 E
  refine A_ ?_
  have H:=H.bB (.int .u8) 5
  cases E
  exact(aL ⟨.inl z,_,tk0 z ⟨aB z (ad (ad ai)),_,z,H.bA 1 z⟩⟩)
 have E:=iF c3 E
 refine A_ ?_
 refine aE E z ?_ ?_<;>intro c4 E
 ·refine A_ ?_
  have H:=H.bB (.int .u8) 5
  cases E
  exact(aL ⟨.inl z,_,tk0 z ⟨aB z (ad (ad ai)),_,z,H.bA 1 z⟩⟩)
 refine aA (ab (rg (vr (bp (l:=[ii a0.1,ii a0.2.1,ii a0.2.2]) cv (H.Gt 0 z) z z z) ?_)))
 obtain⟨x3,E3,E⟩:=ay E
 refine ye (au Ut z ((j6.calls E3).mono ?_))
 rintro _ w ⟨v1,v2,rfl,K⟩
 have H:=H.app K
 refine⟨_,z,J_ ?_⟩
 refine cA (fun t w=>∃(k1:Nat)(l1 l2:List Int)(v3 v4:Value)(t1:Fr),k1≤k∧Rp.j0 k1 a0 a1 a2 l1 l2=some r∧t=aU t1 [(1,v1_),(2,v2_),(3,pt b1),(6,sn),(7,.bool false),(10,v3),(11,v4),Zc]∧St no w0 w [.blk b1 #[ii a0.1,ii a0.2.1,ii a0.2.2] 24,Y9 v1 x3.1,Y9 v2 x3.2,Y9 v3 l1,Y9 v4 l2]) ?_ ?_
 ·refine A_ ?_
  have H:=H.bB (.int .u8) 5
  have H:=H.bB (.int .u8) 5
  refine bx (fun kk t w=>∃(l3 l4:List Int)(x4:Int)(v5 v6:Value)(t2:Fr),kk≤k∧Rp.l0 kk a0 a1 a2 x3 l3 l4 x4=some r∧t=aU t2 [(1,v1_),(2,v2_),(3,pt b1),(6,sn),(7,.bool false),(8,v1),(9,v2),(10,v5),(11,v6),(12,ii x4),Zc]∧St no w0 w [.blk b1 #[ii a0.1,ii a0.2.1,ii a0.2.2] 24,Y9 v1 x3.1,Y9 v2 x3.2,Y9 v5 l3,Y9 v6 l4]) k Ze ?_
  rintro kk t w ⟨l3,l4,x4,v5,v6,t2,hk1,E,rfl,H⟩
  obtain⟨k2,rfl⟩:=Zd kk
  rw[Rp.l0]at E
  refine A_ ?_
  refine aE E z ?_ ?_<;>intro c5 E<;>refine A_ ?_
  ·refine ye (E9 S7 H E (fun _=>Ry.calls (H.arg (H.rd h2))) (fun x5 E w H=>A_ ?_))
   refine aE E z ?_ ?_<;>intro c6 E<;>refine A_ ?_
   ·obtain⟨⟨g1,g2⟩,E⟩:=ar E
    refine A_ ?_
    refine ye (cL (e:=(.int .u8)) (l:=[at_ 0 x3.1 x4]) aN H z f_ ⟨z,z,acu⟩ f_ (fun v7 w H=>?_))
    obtain⟨g3,E⟩:=ar E
    refine ye (dZ aN H 3 z (ao (H.Gt 5 z)) z z a_ u_ (fun v8 w H=>va v8 (nl (eZ (ds:=[]) (fun w=>∃(v':Value)(l':List Int),St no w0 w [.blk b1 #[ii a0.1,ii a0.2.1,ii a0.2.2] 24,Y9 v1 x3.1,Y9 v2 x3.2,Y9 v8 (l3++([at_ 0 x3.1 x4])),Y9 v' l',Y9 v7 ([at_ 0 x3.1 x4])]) bZ H z z ?_))))
    have H:=H.drew
    refine B_ [0,1,2] ⟨_,_,H⟩ ?_
    obtain⟨⟨g4,g5⟩,E⟩:=ar E
    refine B_ [3,4,5,6] ⟨_,_,H⟩ ?_
    obtain⟨⟨g6,g7⟩,E⟩:=ar E
    refine B_ [7,8] ⟨_,_,H⟩ ?_
    refine wo 9 z (E9 Kj H E (fun _=>oz.calls) (fun x6 E w H=>⟨fun _=>⟨_,_,H.Y8 [0,1,2,3,4,5]⟩,wo 10 z (cL (e:=(.int .u8)) (l:=[x6]) aN H z f_ ⟨z,z,acu⟩ f_ (fun v9 w H=>⟨fun _=>⟨_,_,H.Y8 [0,1,2,3,4,5]⟩,?_⟩))⟩))
    have H:St _ _ _ [_,_,_,_,_,_,_]:=H
    obtain⟨g8,E⟩:=ar E
    refine wo 11 z (dZ aN H 4 z (ao (H.Gt 6 z)) z z a_ u_ (fun v10 w H=>⟨fun _=>⟨_,_,H.Y8 [0,1,2,3,4,5]⟩,B_ [12] ⟨_,_,H.Y8 [0,1,2,3,4,5]⟩ ?_⟩))
    exact⟨k2,bL _,_,_,_,_,_,_,bK hk1,E,Za,H.Y8 [0,1,2,3,4]⟩
   exact⟨k2,bL _,_,_,_,_,_,_,bK hk1,E,Za,H⟩
  exact⟨k2,_,_,_,_,_,a_,E,Za,H⟩
 rintro t w ⟨k1,l1,l2,v3,v4,t1,hk2,E,rfl,H⟩
 unfold Rp.j0 at E
 refine A_ ?_
 refine ye (YM WR H E (fun _=>RJ.calls (H.own 3 z (ao (H.Gt 3 z))) (H.own 4 z (ao (H.Gt 4 z)))) (fun x7 E v11 w H=>A_ ?_))
 refine aE E z ?_ ?_<;>intro c7 E
 ·refine A_ ?_
  have H:=H.bB (.int .u8) 5
  cases E
  exact(aL ⟨.inl z,_,tk0 z ⟨aB z (ad (ad ai)),_,z,H.bA 6 z⟩⟩)
 refine aA (ab (rg (vr (bp (l:=[ii a0.1,ii a0.2.1,ii a0.2.2]) cv (H.Gt 0 z) z z z) (A_ ?_))))
 refine ye (YM WS H E (fun _=>RY.calls (H.own 5 z (ao (H.Gt 5 z)))) (fun x8 E v12 w H=>A_ ?_))
 refine vr (bp (l:=[ii a0.1,ii a0.2.1,ii a0.2.2]) cv (H.Gt 0 z) z z z) (A_ ?_)
 refine ye (E9 WT H E (fun _=>SD.calls (H.arg (H.rd h1)) (H.arg (H.rd h2)) (H.own 6 z (ao (H.Gt 6 z)))) (fun x9 E w H=>A_ ?_))
 cases E
 exact⟨.inl z,_,tk0 z ⟨aB z (ad (ad ai)),_,z,H.bA 6 z⟩⟩
mutual
def Rr.l0:Nat→List Int→Int→Option (Bool)
 |0,_,_=>none
 |k+1,a0,x6=>bif decide (x6<(a0.length:Int))then(Rr.l1 k a0 x6 0)else(some false)
def Rr.l1:Nat→List Int→Int→Int→Option (Bool)
 |0,_,_,_=>none
 |k+1,a0,x6,x1=>bif decide (x1<x6)then(an (decide ((0:Int)≤x1∧x1<(a0.length:Int))) (an (decide ((0:Int)≤x6∧x6<(a0.length:Int))) (bif decide (at_ 0 a0 x1=at_ 0 a0 x6)then(some true)else(Rr.l1 k a0 x6 (I W (x1+1))))))else(Rr.l0 k a0 (I W (x6+1)))
end
def Rr.f(k:Nat)(a0:List Int):Option (Bool):=Rr.l0 k a0 0
theorem Rr.calls{a0:List Int}{r:Bool}(h0:Rd (.of (.int .i64)) w0 (Ol no w0) v0_ a0)(E:Rr.f k a0=some r):
 Calls aa 8 #[v0_] w0 fun e w'=>e= .returned (.bool r)∧St no w0 w' []:=by
 have H:=St.nil no w0
 unfold Rr.f at E
 refine Zb func8 ?_
 refine A_ ?_
 refine bx (fun kk t w=>∃(x6:Int)(t1:Fr),kk≤k∧Rr.l0 kk a0 x6=some r∧t=aU t1 [(0,v0_),(2,.bool false),(3,ii x6),Zc]∧St no w0 w []) k Ze ?_
 rintro kk t w ⟨x6,t1,hk1,E,rfl,H⟩
 obtain⟨k1,rfl⟩:=Zd kk
 rw[Rr.l0]at E
 refine A_ ?_
 refine aE E z ?_ ?_<;>intro c1 E<;>refine A_ ?_
 ·refine bx (fun kk t w=>∃(x1:Int)(t2:Fr),kk≤k1∧Rr.l1 kk a0 x6 x1=some r∧t=aU t2 [(0,v0_),(2,.bool false),(3,ii x6),(4,ii x1),Zc]∧St no w0 w []) k1 Ze ?_
  rintro kk t w ⟨x1,t2,hk2,E,rfl,H⟩
  obtain⟨k2,rfl⟩:=Zd kk
  rw[Rr.l1]at E
  refine A_ ?_
  refine aE E z ?_ ?_<;>intro c2 E<;>refine A_ ?_
  ·refine cd (ds:=[]) bZ H z z ?_
   have H:=H.drew
   refine B_ [0,1] H ?_
   obtain⟨⟨g1,g2⟩,E⟩:=ar E
   refine B_ [2,3,4,5] H ?_
   obtain⟨⟨g3,g4⟩,E⟩:=ar E
   refine B_ [6,7,8] H ?_
   refine aE E z ?_ ?_<;>intro c3 E<;>refine A_ ?_
   ·cases E
    exact(bG (aL (aL (bG (bG (aL (aL (bG (aL ⟨.inl z,_,tk0 z ⟨aB z (ad ai),z,H.bs⟩⟩)))))))))
   exact⟨k2,bL _,_,_,bK hk2,E,Za,H⟩
  exact⟨k2,a_,_,_,a_,E,Za,H⟩
 cases E
 exact⟨.inl z,_,tk0 z ⟨aB z (ad ai),z,H.bs⟩⟩
def SC.f(a0:Int×Int×Int)(a1:List Int):Option (List Int×Int):=(kC.f (a0.1,a0.2.1,a0.2.2)).bind fun x5=>bif !decide (x5=0)then(some (([]:List Int),10))else(bif !decide ((a1.length:Int)=a0.1)then(some (([]:List Int),12))else((lR.f (a0.1,a0.2.1,a0.2.2)).bind fun x1=>an (decide ((0:Int)≤x1∧x1≤(a1.length:Int))) (an (decide ((([]:List Int).length+((a1.take a1.length).drop x1.toNat).length)*1≤140737488355328)) (some (([]:List Int)++(a1.take a1.length).drop x1.toNat,0)))))
theorem SC.calls{a0:Int×Int×Int}{a1:List Int}{r:List Int×Int}(h1:Zf no w0 v1_ a1)(E:SC.f a0 a1=some r):
 Calls aa 28 #[.agg #[ii a0.1,ii a0.2.1,ii a0.2.2],v1_] w0 fun e w'=>∃(u0:Value),e= .returned (.tuple #[u0,ii r.2])∧St no w0 w' [Y9 u0 r.1]:=by
 have H:=St.nil no w0
 unfold SC.f at E
 refine Zb func28 ?_
 refine rg (ye (bc (cs:=#[ii a0.1,ii a0.2.1,ii a0.2.2]) H z (fun b1 w H=>A_ ?_)))
 refine vr (bp (l:=[ii a0.1,ii a0.2.1,ii a0.2.2]) cv (H.Gt 0 z) z z z) ?_
 refine ye (E9 vT H E (fun _=>kC.calls) (fun x5 E w H=>A_ ?_))
 refine aE E z ?_ ?_<;>intro c7 E<;>refine A_ ?_
 ·have H:=H.bB (.int .u8) 5
  cases E
  exact(aL ⟨.inl z,_,tk0 z ⟨aB z (ad (ad ai)),_,z,H.bA 1 z⟩⟩)
 refine aE E z ?_ ?_<;>intro c9 E<;>refine A_ ?_
 ·have H:=H.bB (.int .u8) 5
  cases E
  exact(aL ⟨.inl z,_,tk0 z ⟨aB z (ad (ad ai)),_,z,H.bA 1 z⟩⟩)
 refine vr (bp (l:=[ii a0.1,ii a0.2.1,ii a0.2.2]) cv (H.Gt 0 z) z z z) ?_
 refine ye (E9 A6 H E (fun _=>lR.calls) (fun x1 E w H=>?_))
 obtain⟨⟨g1,g2⟩,E⟩:=ar E
 have p1:x1.toNat≤a1.length:=a_
 have p2:a1.length≤a1.length:=a_
 refine vr (iW aN (H.rd h1) z z g1 g2) ?_
 have H:=H.bB (.int .u8) 5
 obtain⟨g3,E⟩:=ar E
 refine ye (dZ aN H 1 z (Rd.bz (H.rd h1) p1 p2) z z a_ u_ (fun v1 w H=>A_ ?_))
 cases E
 exact⟨.inl z,_,tk0 z ⟨aB z (ad (ad ai)),_,z,H.bA 1 z⟩⟩
def SE.f(k:Nat)(a0:Int×Int×Int)(a1 a2:List Int):Option ((List Int×List Int×List Int)×Int):=(SC.f (a0.1,a0.2.1,a0.2.2) a2).bind fun x3=>bif !decide (x3.2=0)then(some ((([]:List Int),([]:List Int),([]:List Int)),x3.2))else(bif !decide ((a1.length:Int)=a0.1)then(some ((([]:List Int),([]:List Int),([]:List Int)),12))else((RP.f k a1 a2).bind fun x1=>an (decide ((([]:List Int).length+a2.length)*1≤140737488355328)) (some ((([]:List Int)++a2,x3.1,x1),0))))
theorem SE.calls{a0:Int×Int×Int}{a1 a2:List Int}{r:(List Int×List Int×List Int)×Int}(h1:Zf no w0 v1_ a1)(h2:Zf no w0 v2_ a2)(E:SE.f k a0 a1 a2=some r):
 Calls aa 9 #[.agg #[ii a0.1,ii a0.2.1,ii a0.2.2],v1_,v2_] w0 fun e w'=>∃(u0_0 u0_1 u0_2:Value),e= .returned (.tuple #[.agg #[u0_0,u0_1,u0_2],ii r.2])∧St no w0 w' [Y9 u0_0 r.1.1,Y9 u0_1 r.1.2.1,Zh u0_2 r.1.2.2]:=by
 have H:=St.nil no w0
 unfold SE.f at E
 refine Zb func9 ?_
 refine rg (ye (bc (cs:=#[ii a0.1,ii a0.2.1,ii a0.2.2]) H z (fun b1 w H=>ye (cr vB H (fun b2 w H=>A_ ?_)))))
 refine vr (bp (l:=[ii a0.1,ii a0.2.1,ii a0.2.2]) cv (H.Gt 0 z) z z z) (A_ ?_)
 refine ye (YM WU H E (fun _=>SC.calls (H.arg (H.rd h2))) (fun x3 E v5 w H=>A_ ?_))
 refine aE E z ?_ ?_<;>intro c7 E
 ·refine rg (vr (cf (cs:=[sn,sn,sn]) zh z) (vm (ii x3.2) (s_ (cy sR H 1 z z z z z z (fun w H=>A_ ?_)))))
  have H:=H.bB (.int .u8) 5
  have H:=H.bB (.int .u8) 5
  have H:=H.bB (.int .i64) 3
  cases E
  exact(aL ⟨.inl z,_,tk0 z ⟨aB z (dL z zf (eG (n:=3) (H.Gt 1 z) z) z (ad ai)),_,_,_,z,H.fJ 3 4 5 z z z z z z⟩⟩)
 refine A_ ?_
 refine aE E z ?_ ?_<;>intro c9 E
 ·refine rg (vr (cf (cs:=[sn,sn,sn]) zh z) (s_ (cy sR H 1 z z z z z z (fun w H=>A_ ?_))))
  have H:=H.bB (.int .u8) 5
  have H:=H.bB (.int .u8) 5
  have H:=H.bB (.int .i64) 3
  cases E
  exact(aL ⟨.inl z,_,tk0 z ⟨aB z (dL z zf (eG (n:=3) (H.Gt 1 z) z) z (ad ai)),_,_,_,z,H.fJ 3 4 5 z z z z z z⟩⟩)
 refine A_ ?_
 refine ye (YM Uu H E (fun _=>RP.calls (H.arg (H.rd h1)) (H.arg (H.rd h2))) (fun x1 E v1 w H=>?_))
 obtain⟨p1,n1,c1,rfl⟩:=bX (H.Gt 2 z)
 obtain⟨p2,n2,c2,rfl⟩:=bX (H.Gt 3 z)
 refine vr (cf (cs:=[sn,(.slice p1 n1 c1),(.slice p2 n2 c2)]) zh z) (ye (cr vB H (fun b3 w H=>?_)))
 have H:St _ _ _ [_,_,_,_,_]:=H
 refine s_ (cy sR H 4 z z z z z z (fun w H=>A_ ?_))
 have H:=H.bB (.int .u8) 5
 obtain⟨g1,E⟩:=ar E
 refine ye (dZ aN H 5 z (H.rd h2) z z a_ u_ (fun v2 w H=>A_ ?_))
 obtain⟨p3,n3,c3,rfl⟩:=bX (H.Gt 5 z)
 refine s_ (cQ pA H 4 z z z z z (fun w H=>nl (rg (vr (bp (l:=[(.slice p3 n3 c3),(.slice p1 n1 c1),(.slice p2 n2 c2)]) zf (H.Gt 4 z) z z z) (s_ (cy sR H 1 z z z z z z (fun w H=>A_ ?_)))))))
 cases E
 exact⟨.inl z,_,tk0 z ⟨aB z (dL z zf (eG (n:=3) (H.Gt 1 z) z) z (ad ai)),_,_,_,z,H.fJ 5 2 3 z z z z z z⟩⟩
def pP.f(k:Nat):Option (Bool):=(bg.f k Kv).bind fun x1=>bif decide (x1=vW)then((bg.f k Kw).bind fun x4=>some (decide (x4=vX)))else(some false)
theorem pP.calls{r:Bool}(hf:(Rs.env).inv w0)(E:pP.f k=some r):
 Calls aa 12 #[] w0 fun e w'=>e= .returned (.bool r)∧St (Rs.env).fp w0 w' [.gt,.lv]:=by
 have H:=vD hf
 unfold pP.f at E
 refine Zb func12 ?_
 refine A_ ?_
 obtain⟨x1,E2,E⟩:=ay E
 refine ye (au vS z ((bg.calls (sV (H.Gt 0 z) (H.Gt 1 z)) E2).mono ?_))
 rintro _ w ⟨rfl,K⟩
 have H:=H.sC 0 1 z z f_ K
 refine⟨_,z,vr (ov z z) (A_ ?_)⟩
 rcases bR (decide (x1=vW))with c3|c3
 ·have E:=iT c3 E
  obtain⟨x4,E5,E⟩:=ay E
  refine dP z c3 z (au vS z ((bg.calls (sV (H.Gt 0 z) (H.Gt 1 z)) E5).mono ?_))
  rintro _ w ⟨rfl,K⟩
  have H:=H.sC 0 1 z z f_ K
  refine⟨_,z,oo c3 z (ov z z) (A_ ?_)⟩
  cases E
  exact⟨.inl z,_,tk0 z ⟨aB z (ad ai),z,H.bN 0 1 z z z⟩⟩
 have E:=iF c3 E
 refine A_ ?_
 cases E
 exact⟨.inl z,_,tk0 z ⟨aB z (ad ai),z,H.bN 0 1 z z z⟩⟩
def R2.l0:Nat→List Int→ByteArray→Int→Option (ByteArray)
 |0,_,_,_=>none
 |k+1,a0,x9,x1=>bif decide (x1<(a0.length:Int))then(an (decide ((x9.size+mI.size:Nat)≤140737488355328)) (an (decide ((0:Int)≤x1∧x1<(a0.length:Int))) ((strconv_Itoa.f (at_ 0 a0 x1)).bind fun x2=>an (decide (((cat x9 mI).size+x2.size:Nat)≤140737488355328)) (R2.l0 k a0 (cat (cat x9 mI) x2) (I W (x1+1))))))else(some x9)
def R2.f(k:Nat)(a0:List Int):Option (ByteArray):=R2.l0 k a0 A9 0
theorem R2.calls{a0:List Int}{r:ByteArray}(hf:(Rs.lv).inv w0)(h0:Rd (.of (.int .i64)) w0 (Ol (Rs.lv).fp w0) v0_ a0)(E:R2.f k a0=some r):
 Calls aa 15 #[v0_] w0 fun e w'=>e= .returned (.string r)∧St (Rs.lv).fp w0 w' [.lv]:=by
 have H:=St.start hf
 unfold R2.f at E
 refine Zb func15 ?_
 refine A_ ?_
 refine bx (fun kk t w=>∃(x9:ByteArray)(x1:Int)(t1:Fr),kk≤k∧R2.l0 kk a0 x9 x1=some r∧t=aU t1 [(0,v0_),(2,.string A9),(3,.string x9),(4,ii x1),Zc]∧St (Rs.lv).fp w0 w [.lv]) k Ze ?_
 rintro kk t w ⟨x9,x1,t1,hk1,E,rfl,H⟩
 obtain⟨k19,rfl⟩:=Zd kk
 rw[R2.l0]at E
 refine A_ ?_
 refine aE E z ?_ ?_<;>intro c1 E<;>refine A_ ?_
 ·obtain⟨g1,E⟩:=ar E
  refine vr (cJ z z g1) (A_ ?_)
  obtain⟨⟨g2,g3⟩,E⟩:=ar E
  refine A_ ?_
  refine ye (YL vR H 0 E z (fun _=>strconv_Itoa.calls (H.Gt 0 z)) (fun x2 E w H=>?_))
  obtain⟨g4,E⟩:=ar E
  refine vr (cJ z z g4) (A_ ?_)
  exact⟨k19,bL _,_,_,_,bK hk1,E,Za,H⟩
 cases E
 exact⟨.inl z,_,tk0 z ⟨aB z (ad ai),z,H.bA 0 z⟩⟩
end Go.Proofs.YtmhkpafkadijgaaGreatDoor.Gw
