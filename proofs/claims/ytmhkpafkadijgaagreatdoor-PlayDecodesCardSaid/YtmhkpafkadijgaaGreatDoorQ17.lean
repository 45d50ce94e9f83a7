/- A part of the proof of Rows.PlayDecodesCardSaid; the conditions are that card's own. -/
import Derived.Test.YtmhkpafkadijgaaGreatDoorQ16
set_option linter.all false
set_option maxRecDepth 100000
set_option maxHeartbeats 4000000
namespace Go.Proofs.YtmhkpafkadijgaaGreatDoor.Gw
open Go.IntKind renaming wrap→I,i64→W
open Go Go.RowKit
variable[de]
open Go.IntKind (i8 i16 i32 i64 u8 u16 u32 u64)
open Tryz hiding prog
open Tryz renaming prog → aa
variable{w0:World}{k:Nat}{v0_:Value}
mutual
def fA.l0:Nat→Int→Int→List (Int)→Int→Option ((Unit)×List Int)
 |0,_,_,_,_=>none
 |k+1,a1,a2,l1,x1=>bif decide (x1<a2)then(fA.l1 k a1 a2 x1 l1 x1)else(some ((),l1))
def fA.l1:Nat→Int→Int→Int→List (Int)→Int→Option ((Unit)×List Int)
 |0,_,_,_,_,_=>none
 |k+1,a1,a2,x1,l2,x2=>bif decide (a1<x2)then(an (decide ((0:Int)≤x2∧x2<(l2.length:Int))) (an (decide ((0:Int)≤I W (x2-1)∧I W (x2-1)<(l2.length:Int))) ((eI.f (at_ 0 l2 x2) (at_ 0 l2 (I W (x2-1)))).bind fun x3=>bif x3 then(an (decide ((0:Int)≤I W (x2-1)∧I W (x2-1)<(l2.length:Int))) (an (decide ((0:Int)≤x2∧x2<(l2.length:Int))) (an (decide ((0:Int)≤x2∧x2<(l2.length:Int))) (an (decide ((0:Int)≤I W (x2-1)∧I W (x2-1)<((l2.set x2.toNat (at_ 0 l2 (I W (x2-1)))).length:Int))) (fA.l1 k a1 a2 x1 ((l2.set x2.toNat (at_ 0 l2 (I W (x2-1)))).set (I W (x2-1)).toNat (at_ 0 l2 x2)) (I W (x2-1)))))))else(fA.l0 k a1 a2 l2 (I W (x1+1))))))else(fA.l0 k a1 a2 l2 (I W (x1+1)))
end
def fA.f(k:Nat)(l0_:List Int)(a1 a2:Int):Option ((Unit)×List Int):=fA.l0 k a1 a2 l0_ (I W (a1+1))
theorem fA.calls{l0_:List Int}{a1 a2:Int}{r:(Unit)×List Int}(hf:(Y9 v0_ l0_).inv w0)(E:fA.f k l0_ a1 a2=some r):
 Calls aa 361 #[v0_,ii a1,ii a2] w0 fun e w'=>e= .returned (.tuple #[])∧St (Y9 v0_ l0_).fp w0 w' [Y9 v0_ r.2]:=by
 have H:=St.start hf
 unfold fA.f at E
 refine Zb func361 ?_
 refine A_ ?_
 refine bx (fun kk t w=>∃(l1:List Int)(x1:Int)(t1:Fr),kk≤k∧fA.l0 kk a1 a2 l1 x1=some r∧t=aU t1 [(0,v0_),(1,ii a1),(2,ii a2),(6,ii x1),Zc]∧St (Y9 v0_ l0_).fp w0 w [Y9 v0_ l1]) k Ze ?_
 rintro kk t w ⟨l1,x1,t1,hk1,E,rfl,H⟩
 obtain⟨k1,rfl⟩:=Zd kk
 rw[fA.l0]at E
 refine A_ ?_
 refine aE E z ?_ ?_<;>intro c1 E<;>refine A_ ?_
 ·refine bx (fun kk t w=>∃(l2:List Int)(x2:Int)(t2:Fr),kk≤k1∧fA.l1 kk a1 a2 x1 l2 x2=some r∧t=aU t2 [(0,v0_),(1,ii a1),(2,ii a2),(6,ii x1),(7,ii x2),Zc]∧St (Y9 v0_ l0_).fp w0 w [Y9 v0_ l2]) k1 Ze ?_
  rintro kk t w ⟨l2,x2,t2,hk2,E,rfl,H⟩
  obtain⟨k2,rfl⟩:=Zd kk
  rw[fA.l1]at E
  refine ae (ae (cd (ds:=[]) bZ H z z ?_))
  have H:=H.drew
  refine B_ [0,1,2,3] H ?_
  rcases bR (decide (a1<x2))with c2|c2
  ·have E:=iT c2 E
   refine B_ [4,5] H ?_
   obtain⟨⟨g1,g2⟩,E⟩:=ar E
   refine B_ [6,7,8,9,10] H ?_
   obtain⟨⟨g3,g4⟩,E⟩:=ar E
   refine B_ [11,12] H ?_
   refine wp 13 z z z c2 (E9 kN H E (fun _=>eI.calls) (fun x3 E w H=>⟨fun _=>H.Y8 [0],B_ [14] (H.Y8 [0]) ?_⟩))
   refine aE E z ?_ ?_<;>intro c3 E<;>refine A_ ?_
   ·refine eZ (ds:=[17]) (fun w=>∃l':List Int,l'.length=l2.length∧St (Y9 v0_ l0_).fp w0 w [Y9 v0_ l']) bZ H z z ?_
    have H:=H.drew
    refine B_ [0,1,2,3,4,5,6,7] ⟨_,j_,H⟩ ?_
    obtain⟨⟨g5,g6⟩,E⟩:=ar E
    refine wz 8 z ⟨_,j_,H⟩ (fun w ⟨l',e',H⟩=>ey e' aN (ao (H.Gt 0 z)) z z g5 (by simpa using g6)) (B_ [10,11] ⟨_,j_,H⟩ ?_)
    obtain⟨⟨g7,g8⟩,E⟩:=ar E
    refine wz 12 z ⟨_,j_,H⟩ (fun w ⟨l',e',H⟩=>ey e' aN (ao (H.Gt 0 z)) z z g7 (by simpa using g8)) (qn (i:=9) (j:=13) (li:=tf 13 18) (lj:=#[true,true,true,true,true,true,true,true,true,false,true,true,true,true,false,false,false,false]) (l':=tf 14 18) z z z z z z z z z d_ d_ d_ ⟨_,j_,H⟩ (bq bC (ao (H.Gt 0 z)) g5 g6 z) (bq bC (ao (H.Gt 0 z)) g5 g6 z) (bq bC (ao (H.Gt 0 z)) g7 g8 z) (bq bC (ao (H.Gt 0 z)) g7 g8 z) ?_)
    obtain⟨⟨g9,g10⟩,E⟩:=ar E
    refine wz 14 z ⟨_,j_,H⟩ (fun w ⟨l',e',H⟩=>ey e' aN (ao (H.Gt 0 z)) z z g9 (by simpa using g10)) (wo 15 z (dc dB H 0 z g9 g10 z z (fun w H=>⟨fun _=>⟨_,j_,H.ag [0] z z⟩,?_⟩)))
    obtain⟨⟨g11,g12⟩,E⟩:=ar E
    refine wz 16 z ⟨_,j_,H.ag [0] z z⟩ (fun w ⟨l',e',H⟩=>ey e' aN (ao (H.Gt 0 z)) z z g11 (by simpa using g12)) (wo 17 z (dc dB H 0 z g11 g12 z z (fun w H=>⟨fun h=>(h f_).elim,wd (A_ ?_)⟩)))
    exact⟨k2,bL _,_,_,_,bK hk2,E,Za,H⟩
   exact⟨k2,a_,_,_,_,a_,E,Za,H⟩
  have E:=iF c2 E
  refine B_ [4,5,6,7,8,9,10,11,12,13,14] H ?_
  exact⟨k2,a_,_,_,_,a_,E,Za,H⟩
 cases E
 exact⟨.inr z,_,tk0 z ⟨aB z ai,z,H.bA 0 z⟩⟩
def dY.j0(x1 x2:Int):Option (Int×Int):=bif decide (x1=0)then(some (x2,1))else(bif decide (x1=12)then(some (x2,2))else(some (x2,0)))
def dY.j3(x1 x2 x3:Int):Option (Int×Int):=dY.j0 x1 x3
def dY.j2(a0:List Int)(x1 x2 x3 x4:Int):Option (Int×Int):=an (decide ((0:Int)≤x3∧x3<(a0.length:Int))) (an (decide ((0:Int)≤x1∧x1<(a0.length:Int))) ((eI.f (at_ 0 a0 x3) (at_ 0 a0 x1)).bind fun x5=>bif x5 then(dY.j3 (I W (x2+1)) x3 x1)else(dY.j3 x2 x1 x3)))
def dY.j1(a0:List Int)(a1 a2 x1 x2 x3:Int):Option (Int×Int):=an (decide ((0:Int)≤I W (a1+I W (I W (Int.tdiv (I W (a2-a1)) 4)*3))∧I W (a1+I W (I W (Int.tdiv (I W (a2-a1)) 4)*3))<(a0.length:Int))) (an (decide ((0:Int)≤x3∧x3<(a0.length:Int))) ((eI.f (at_ 0 a0 (I W (a1+I W (I W (Int.tdiv (I W (a2-a1)) 4)*3)))) (at_ 0 a0 x3)).bind fun x4=>bif x4 then(dY.j2 a0 x2 (I W (x1+1)) (I W (a1+I W (I W (Int.tdiv (I W (a2-a1)) 4)*3))) x3)else(dY.j2 a0 x2 x1 x3 (I W (a1+I W (I W (Int.tdiv (I W (a2-a1)) 4)*3))))))
def dY.f(a0:List Int)(a1 a2:Int):Option (Int×Int):=bif decide (8≤I W (a2-a1))then(bif decide (50≤I W (a2-a1))then(none)else(an (decide ((0:Int)≤I W (a1+I W (I W (Int.tdiv (I W (a2-a1)) 4)*2))∧I W (a1+I W (I W (Int.tdiv (I W (a2-a1)) 4)*2))<(a0.length:Int))) (an (decide ((0:Int)≤I W (a1+I W (I W (Int.tdiv (I W (a2-a1)) 4)*1))∧I W (a1+I W (I W (Int.tdiv (I W (a2-a1)) 4)*1))<(a0.length:Int))) ((eI.f (at_ 0 a0 (I W (a1+I W (I W (Int.tdiv (I W (a2-a1)) 4)*2)))) (at_ 0 a0 (I W (a1+I W (I W (Int.tdiv (I W (a2-a1)) 4)*1))))).bind fun x1=>bif x1 then(dY.j1 a0 a1 a2 1 (I W (a1+I W (I W (Int.tdiv (I W (a2-a1)) 4)*2))) (I W (a1+I W (I W (Int.tdiv (I W (a2-a1)) 4)*1))))else(dY.j1 a0 a1 a2 0 (I W (a1+I W (I W (Int.tdiv (I W (a2-a1)) 4)*1))) (I W (a1+I W (I W (Int.tdiv (I W (a2-a1)) 4)*2))))))))else(dY.j0 0 (I W (a1+I W (I W (Int.tdiv (I W (a2-a1)) 4)*2))))
theorem dY.calls{a0:List Int}{a1 a2:Int}{r:Int×Int}(h0:Zf no w0 v0_ a0)(E:dY.f a0 a1 a2=some r):
 Calls aa 364 #[v0_,ii a1,ii a2] w0 fun e w'=>e= .returned (.tuple #[ii r.1,ii r.2])∧St no w0 w' []:=by
 have H:=St.nil no w0
 unfold dY.f at E
 refine Zb func364 ?_
 obtain⟨k,_⟩:∃k:Nat,k=0:=⟨0,rfl⟩
 refine A_ ?_
 refine ye (cr vA H (fun b1 w H=>J_ ?_))
 refine cA (fun t w=>∃(k1:Nat)(x1 x2:Int)(t1:Fr),k1≤k∧dY.j0 x1 x2=some r∧t=aU t1 [(6,ii 0),(7,ii 0),(9,pt b1),(11,ii x2),Zc]∧St no w0 w [.blk b1 #[ii x1] 3]) ?_ ?_
 ·refine A_ ?_
  refine aE E z ?_ ?_<;>intro c1 E
  ·refine A_ ?_
   refine aE E z ?_ ?_<;>intro c2 E
   ·cases E
   refine A_ ?_
   refine ye (cm 36 [v0_,ii (I W (a1+I W (I W (Int.tdiv (I W (a2-a1)) 4)*1))),ii (I W (a1+I W (I W (Int.tdiv (I W (a2-a1)) 4)*2))),ii (I W (a1+I W (I W (Int.tdiv (I W (a2-a1)) 4)*3))),pt b1] H5 func376 z z z z (A_ ?_))
   refine ye (fZ (fun v w=>∃(k2:Nat)(x3 x4 x5:Int),k2≤k∧dY.j1 a0 a1 a2 x3 x4 x5=some r∧v= .tuple #[ii x4,ii x5]∧St no w0 w [.blk b1 #[ii x3] 3]) ?_ ?_)
   ·refine cm 28 [v0_,ii (I W (a1+I W (I W (Int.tdiv (I W (a2-a1)) 4)*1))),ii (I W (a1+I W (I W (Int.tdiv (I W (a2-a1)) 4)*2))),pt b1] vu func380 z z z z (A_ ?_)
    refine cd (ds:=[]) bZ H z z ?_
    have H:=H.drew
    refine B_ [0,1] H ?_
    obtain⟨⟨g1,g2⟩,E⟩:=ar E
    refine B_ [2,3,4,5] H ?_
    obtain⟨⟨g3,g4⟩,E⟩:=ar E
    refine B_ [6,7] H ?_
    refine wo 8 z (E9 kN H E (fun _=>eI.calls) (fun x6 E w H=>⟨fun _=>H.Y8 [0],wd (ab ?_)⟩))
    refine aE E z ?_ ?_<;>intro c3 E<;>refine A_ ?_
    ·refine s_ (cQ gJ H 0 z z z z z (fun w H=>A_ ?_))
     exact(aL ⟨.inl z,.tuple #[ii (I W (a1+I W (I W (Int.tdiv (I W (a2-a1)) 4)*2))),ii (I W (a1+I W (I W (Int.tdiv (I W (a2-a1)) 4)*1)))],tk0 z ⟨ba z (ad (ad ai)) z,k,_,_,_,aI _,E,z,H⟩⟩)
    exact⟨.inl z,.tuple #[ii (I W (a1+I W (I W (Int.tdiv (I W (a2-a1)) 4)*1))),ii (I W (a1+I W (I W (Int.tdiv (I W (a2-a1)) 4)*2)))],tk0 z ⟨ba z (ad (ad ai)) z,k,_,_,_,aI _,E,z,H⟩⟩
   rintro _ w ⟨k2,x3,x4,x5,hk1,E,hv_,H⟩
   have hv_:=hv_.symm
   subst hv_
   unfold dY.j1 at E
   refine A_ ?_
   refine ye (fZ (fun v w=>∃(k3:Nat)(x7 x8 x9:Int),k3≤k2∧dY.j2 a0 x4 x7 x8 x9=some r∧v= .tuple #[ii x8,ii x9]∧St no w0 w [.blk b1 #[ii x7] 3]) ?_ ?_)
   ·refine cm 28 [v0_,ii x5,ii (I W (a1+I W (I W (Int.tdiv (I W (a2-a1)) 4)*3))),pt b1] vu func380 z z z z (A_ ?_)
    refine cd (ds:=[]) bZ H z z ?_
    have H:=H.drew
    refine B_ [0,1] H ?_
    obtain⟨⟨g5,g6⟩,E⟩:=ar E
    refine B_ [2,3,4,5] H ?_
    obtain⟨⟨g7,g8⟩,E⟩:=ar E
    refine B_ [6,7] H ?_
    refine wo 8 z (E9 kN H E (fun _=>eI.calls) (fun x10 E w H=>⟨fun _=>H.Y8 [0],wd (ab ?_)⟩))
    refine aE E z ?_ ?_<;>intro c4 E<;>refine A_ ?_
    ·refine s_ (cQ gJ H 0 z z z z z (fun w H=>A_ ?_))
     exact(aL ⟨.inl z,.tuple #[ii (I W (a1+I W (I W (Int.tdiv (I W (a2-a1)) 4)*3))),ii x5],tk0 z ⟨ba z (ad (ad ai)) z,k2,_,_,_,aI _,E,z,H⟩⟩)
    exact⟨.inl z,.tuple #[ii x5,ii (I W (a1+I W (I W (Int.tdiv (I W (a2-a1)) 4)*3)))],tk0 z ⟨ba z (ad (ad ai)) z,k2,_,_,_,aI _,E,z,H⟩⟩
   rintro _ w ⟨k3,x7,x8,x9,hk2,E,hv_,H⟩
   have hv_:=hv_.symm
   subst hv_
   unfold dY.j2 at E
   refine A_ ?_
   refine ye (fZ (fun v w=>∃(k4:Nat)(x11 x12 x13:Int),k4≤k3∧dY.j3 x11 x12 x13=some r∧v= .tuple #[ii x12,ii x13]∧St no w0 w [.blk b1 #[ii x11] 3]) ?_ ?_)
   ·refine cm 28 [v0_,ii x4,ii x8,pt b1] vu func380 z z z z (A_ ?_)
    refine cd (ds:=[]) bZ H z z ?_
    have H:=H.drew
    refine B_ [0,1] H ?_
    obtain⟨⟨g9,g10⟩,E⟩:=ar E
    refine B_ [2,3,4,5] H ?_
    obtain⟨⟨g11,g12⟩,E⟩:=ar E
    refine B_ [6,7] H ?_
    refine wo 8 z (E9 kN H E (fun _=>eI.calls) (fun x14 E w H=>⟨fun _=>H.Y8 [0],wd (ab ?_)⟩))
    refine aE E z ?_ ?_<;>intro c5 E<;>refine A_ ?_
    ·refine s_ (cQ gJ H 0 z z z z z (fun w H=>A_ ?_))
     exact(aL ⟨.inl z,.tuple #[ii x8,ii x4],tk0 z ⟨ba z (ad (ad ai)) z,k3,_,_,_,aI _,E,z,H⟩⟩)
    exact⟨.inl z,.tuple #[ii x4,ii x8],tk0 z ⟨ba z (ad (ad ai)) z,k3,_,_,_,aI _,E,z,H⟩⟩
   rintro _ w ⟨k4,x11,x12,x13,hk3,E,hv_,H⟩
   have hv_:=hv_.symm
   subst hv_
   unfold dY.j3 at E
   refine A_ ?_
   refine⟨.inl z,ii x13,tk0 z ⟨ba z (ad ai) z,va (ii x13) (aK ?_)⟩⟩
   exact⟨k4,_,_,_,a_,E,Za,H⟩
  refine aA ?_
  exact⟨k,_,_,_,aI _,E,Za,H⟩
 rintro t w ⟨k1,x1,x2,t1,hk4,E,rfl,H⟩
 unfold dY.j0 at E
 refine A_ ?_
 refine aE E z ?_ ?_<;>intro c6 E<;>refine A_ ?_
 ·cases E
  exact(bG ⟨.inl z,_,tk0 z ⟨aB z (ad (ad ai)),z,H.bs⟩⟩)
 refine aE E z ?_ ?_<;>intro c7 E<;>refine A_ ?_
 ·cases E
  exact(bG ⟨.inl z,_,tk0 z ⟨aB z (ad (ad ai)),z,H.bs⟩⟩)
 cases E
 exact(bG ⟨.inl z,_,tk0 z ⟨aB z (ad (ad ai)),z,H.bs⟩⟩)
def fI.j0(k:Nat)(l0_:List Int)(a1 a2 x1:Int):Option ((Bool)×List Int):=bif decide (x1=a2)then(some (true,l0_))else(bif decide (I W (a2-a1)<50)then(some (false,l0_))else(none))
mutual
def fI.l0:Nat→List Int→Int→Int→Option ((Bool)×List Int)
 |0,_,_,_=>none
 |k+1,l0_,a1,a2=>fI.l1 k l0_ a1 a2 (I W (a1+1))
def fI.l1:Nat→List Int→Int→Int→Int→Option ((Bool)×List Int)
 |0,_,_,_,_=>none
 |k+1,l0_,a1,a2,x1=>bif decide (x1<a2)then(an (decide ((0:Int)≤x1∧x1<(l0_.length:Int))) (an (decide ((0:Int)≤I W (x1-1)∧I W (x1-1)<(l0_.length:Int))) ((eI.f (at_ 0 l0_ x1) (at_ 0 l0_ (I W (x1-1)))).bind fun x2=>bif !x2 then(fI.l1 k l0_ a1 a2 (I W (x1+1)))else(fI.j0 k l0_ a1 a2 x1))))else(fI.j0 k l0_ a1 a2 x1)
end
def fI.f(k:Nat)(l0_:List Int)(a1 a2:Int):Option ((Bool)×List Int):=fI.l0 k l0_ a1 a2
theorem fI.calls{l0_:List Int}{a1 a2:Int}{r:(Bool)×List Int}(hf:(Y9 v0_ l0_).inv w0)(E:fI.f k l0_ a1 a2=some r):
 Calls aa 366 #[v0_,ii a1,ii a2] w0 fun e w'=>e= .returned (.bool r.1)∧St (Y9 v0_ l0_).fp w0 w' [Y9 v0_ r.2]:=by
 have H:=St.start hf
 unfold fI.f at E
 refine Zb func366 ?_
 refine A_ ?_
 refine bx (fun kk t w=>∃(t1:Fr),kk≤k∧fI.l0 kk l0_ a1 a2=some r∧t=aU t1 [(0,v0_),(1,ii a1),(2,ii a2),(6,.bool false),(7,ii (I W (a1+1))),(8,ii 0),Zc]∧St (Y9 v0_ l0_).fp w0 w [Y9 v0_ l0_]) k Ze ?_
 rintro kk t w ⟨t1,hk1,E,rfl,H⟩
 obtain⟨k1,rfl⟩:=Zd kk
 rw[fI.l0]at E
 refine ae (rg (vm (ii 0) (vr (bJ (v':=.bool true) (aZ z z) z) (nl (cl z (aA (ab (ae (aG ?_)))))))))
 refine cA (fun t w=>∃(k2:Nat)(x1:Int)(t2:Fr),k2≤k1∧fI.j0 k2 l0_ a1 a2 x1=some r∧t=aU t2 [(0,v0_),(1,ii a1),(2,ii a2),(6,.bool false),(7,ii x1),(8,ii 0),Zc]∧St (Y9 v0_ l0_).fp w0 w [Y9 v0_ l0_]) ?_ ?_
 ·refine aG ?_
  refine bx (fun kk t w=>∃(x2:Int)(t3:Fr),kk≤k1∧fI.l1 kk l0_ a1 a2 x2=some r∧t=aU t3 [(0,v0_),(1,ii a1),(2,ii a2),(6,.bool false),(7,ii x2),(8,ii 0),Zc]∧St (Y9 v0_ l0_).fp w0 w [Y9 v0_ l0_]) k1 Ze ?_
  rintro kk t w ⟨x2,t3,hk2,E,rfl,H⟩
  obtain⟨k3,rfl⟩:=Zd kk
  rw[fI.l1]at E
  refine ae (ae (cd (ds:=[]) bZ H z z ?_))
  have H:=H.drew
  refine B_ [0,1,2,3] H ?_
  rcases bR (decide (x2<a2))with c1|c1
  ·have E:=iT c1 E
   refine B_ [4,5] H ?_
   obtain⟨⟨g1,g2⟩,E⟩:=ar E
   refine B_ [6,7,8,9,10] H ?_
   obtain⟨⟨g3,g4⟩,E⟩:=ar E
   refine B_ [11,12] H ?_
   refine wp 13 z z z c1 (E9 kN H E (fun _=>eI.calls) (fun x3 E w H=>⟨fun _=>H.Y8 [0],B_ [14,15] (H.Y8 [0]) ?_⟩))
   refine aE E z ?_ ?_<;>intro c2 E<;>refine A_ ?_
   ·exact⟨k3,bL _,_,_,bK hk2,E,Za,H⟩
   exact⟨k3,_,_,a_,E,Za,H⟩
  have E:=iF c1 E
  refine B_ [4,5,6,7,8,9,10,11,12,13,14,15] H ?_
  exact⟨k3,_,_,a_,E,Za,H⟩
 rintro t w ⟨k2,x1,t2,hk3,E,rfl,H⟩
 unfold fI.j0 at E
 refine A_ ?_
 refine aE E z ?_ ?_<;>intro c3 E<;>refine A_ ?_
 ·cases E
  exact(aL (bG (aL (aL (bG (aL ⟨.inl z,_,tk0 z ⟨aB z (ad ai),z,H.bA 0 z⟩⟩))))))
 refine aE E z ?_ ?_<;>intro c4 E
 ·refine A_ ?_
  cases E
  exact(aL (bG (aL (aL (bG (aL ⟨.inl z,_,tk0 z ⟨aB z (ad ai),z,H.bA 0 z⟩⟩))))))
 cases E
def ck.j0(l1r:List Int→Int→Int→Int→Int→Option ((Int×Bool)×List Int))(k:Nat)(l0_:List Int)(a1 a2 a3 x1:Int):Option ((Int×Bool)×List Int):=l1r l0_ a1 a3 x1 (I W (a2-1))
def ck.j1(l2r:Int→List (Int)→Int→Int→Option ((Int×Bool)×List Int))(k:Nat)(l0_:List Int)(a1 a3 x1 x2:Int):Option ((Int×Bool)×List Int):=bif decide (x2<x1)then(an (decide ((0:Int)≤a1∧a1<(((l0_.set a1.toNat (at_ 0 l0_ a3)).set a3.toNat (at_ 0 l0_ a1)).length:Int))) (an (decide ((0:Int)≤x2∧x2<(((l0_.set a1.toNat (at_ 0 l0_ a3)).set a3.toNat (at_ 0 l0_ a1)).length:Int))) (an (decide ((0:Int)≤x2∧x2<(((l0_.set a1.toNat (at_ 0 l0_ a3)).set a3.toNat (at_ 0 l0_ a1)).length:Int))) (an (decide ((0:Int)≤a1∧a1<((((l0_.set a1.toNat (at_ 0 l0_ a3)).set a3.toNat (at_ 0 l0_ a1)).set x2.toNat (at_ 0 ((l0_.set a1.toNat (at_ 0 l0_ a3)).set a3.toNat (at_ 0 l0_ a1)) a1)).length:Int))) (some ((x2,true),(((l0_.set a1.toNat (at_ 0 l0_ a3)).set a3.toNat (at_ 0 l0_ a1)).set x2.toNat (at_ 0 ((l0_.set a1.toNat (at_ 0 l0_ a3)).set a3.toNat (at_ 0 l0_ a1)) a1)).set a1.toNat (at_ 0 ((l0_.set a1.toNat (at_ 0 l0_ a3)).set a3.toNat (at_ 0 l0_ a1)) x2)))))))else(an (decide ((0:Int)≤x2∧x2<(((l0_.set a1.toNat (at_ 0 l0_ a3)).set a3.toNat (at_ 0 l0_ a1)).length:Int))) (an (decide ((0:Int)≤x1∧x1<(((l0_.set a1.toNat (at_ 0 l0_ a3)).set a3.toNat (at_ 0 l0_ a1)).length:Int))) (an (decide ((0:Int)≤x1∧x1<(((l0_.set a1.toNat (at_ 0 l0_ a3)).set a3.toNat (at_ 0 l0_ a1)).length:Int))) (an (decide ((0:Int)≤x2∧x2<((((l0_.set a1.toNat (at_ 0 l0_ a3)).set a3.toNat (at_ 0 l0_ a1)).set x1.toNat (at_ 0 ((l0_.set a1.toNat (at_ 0 l0_ a3)).set a3.toNat (at_ 0 l0_ a1)) x2)).length:Int))) (l2r a1 ((((l0_.set a1.toNat (at_ 0 l0_ a3)).set a3.toNat (at_ 0 l0_ a1)).set x1.toNat (at_ 0 ((l0_.set a1.toNat (at_ 0 l0_ a3)).set a3.toNat (at_ 0 l0_ a1)) x2)).set x2.toNat (at_ 0 ((l0_.set a1.toNat (at_ 0 l0_ a3)).set a3.toNat (at_ 0 l0_ a1)) x1)) (I W (x1+1)) (I W (x2-1)))))))
def ck.j2(k:Nat)(a1:Int)(l1:List Int)(x1:Int):Option ((Int×Bool)×List Int):=an (decide ((0:Int)≤a1∧a1<(l1.length:Int))) (an (decide ((0:Int)≤x1∧x1<(l1.length:Int))) (an (decide ((0:Int)≤x1∧x1<(l1.length:Int))) (an (decide ((0:Int)≤a1∧a1<((l1.set x1.toNat (at_ 0 l1 a1)).length:Int))) (some ((x1,false),(l1.set x1.toNat (at_ 0 l1 a1)).set a1.toNat (at_ 0 l1 x1))))))
def ck.j3(l4r:Int→List (Int)→Int→Int→Option ((Int×Bool)×List Int))(k:Nat)(a1:Int)(l1:List Int)(x1 x2:Int):Option ((Int×Bool)×List Int):=l4r a1 l1 x2 x1
def ck.j4(l2r:Int→List (Int)→Int→Int→Option ((Int×Bool)×List Int))(k:Nat)(a1:Int)(l1:List Int)(x1 x2:Int):Option ((Int×Bool)×List Int):=bif decide (x2<x1)then(ck.j2 k a1 l1 x2)else(an (decide ((0:Int)≤x2∧x2<(l1.length:Int))) (an (decide ((0:Int)≤x1∧x1<(l1.length:Int))) (an (decide ((0:Int)≤x1∧x1<(l1.length:Int))) (an (decide ((0:Int)≤x2∧x2<((l1.set x1.toNat (at_ 0 l1 x2)).length:Int))) (l2r a1 ((l1.set x1.toNat (at_ 0 l1 x2)).set x2.toNat (at_ 0 l1 x1)) (I W (x1+1)) (I W (x2-1)))))))
mutual
def ck.l0:Nat→List Int→Int→Int→Int→Int→Option ((Int×Bool)×List Int)
 |0,_,_,_,_,_=>none
 |k+1,l0_,a1,a2,a3,x1=>bif decide (x1≤I W (a2-1))then(an (decide ((0:Int)≤x1∧x1<(((l0_.set a1.toNat (at_ 0 l0_ a3)).set a3.toNat (at_ 0 l0_ a1)).length:Int))) (an (decide ((0:Int)≤a1∧a1<(((l0_.set a1.toNat (at_ 0 l0_ a3)).set a3.toNat (at_ 0 l0_ a1)).length:Int))) ((eI.f (at_ 0 ((l0_.set a1.toNat (at_ 0 l0_ a3)).set a3.toNat (at_ 0 l0_ a1)) x1) (at_ 0 ((l0_.set a1.toNat (at_ 0 l0_ a3)).set a3.toNat (at_ 0 l0_ a1)) a1)).bind fun x2=>bif x2 then(ck.l0 k l0_ a1 a2 a3 (I W (x1+1)))else(ck.j0 (ck.l1 k) k l0_ a1 a2 a3 x1))))else(ck.j0 (ck.l1 k) k l0_ a1 a2 a3 x1)
def ck.l1:Nat→List Int→Int→Int→Int→Int→Option ((Int×Bool)×List Int)
 |0,_,_,_,_,_=>none
 |k+1,l0_,a1,a3,x3,x4=>bif decide (x3≤x4)then(an (decide ((0:Int)≤x4∧x4<(((l0_.set a1.toNat (at_ 0 l0_ a3)).set a3.toNat (at_ 0 l0_ a1)).length:Int))) (an (decide ((0:Int)≤a1∧a1<(((l0_.set a1.toNat (at_ 0 l0_ a3)).set a3.toNat (at_ 0 l0_ a1)).length:Int))) ((eI.f (at_ 0 ((l0_.set a1.toNat (at_ 0 l0_ a3)).set a3.toNat (at_ 0 l0_ a1)) x4) (at_ 0 ((l0_.set a1.toNat (at_ 0 l0_ a3)).set a3.toNat (at_ 0 l0_ a1)) a1)).bind fun x5=>bif !x5 then(ck.l1 k l0_ a1 a3 x3 (I W (x4-1)))else(ck.j1 (ck.l2 k) k l0_ a1 a3 x3 x4))))else(ck.j1 (ck.l2 k) k l0_ a1 a3 x3 x4)
def ck.l2:Nat→Int→List (Int)→Int→Int→Option ((Int×Bool)×List Int)
 |0,_,_,_,_=>none
 |k+1,a1,l1,x6,x7=>ck.l3 k a1 l1 x7 x6
def ck.l3:Nat→Int→List (Int)→Int→Int→Option ((Int×Bool)×List Int)
 |0,_,_,_,_=>none
 |k+1,a1,l1,x7,x8=>bif decide (x8≤x7)then(an (decide ((0:Int)≤x8∧x8<(l1.length:Int))) (an (decide ((0:Int)≤a1∧a1<(l1.length:Int))) ((eI.f (at_ 0 l1 x8) (at_ 0 l1 a1)).bind fun x9=>bif x9 then(ck.l3 k a1 l1 x7 (I W (x8+1)))else(ck.j3 (ck.l4 k) k a1 l1 x7 x8))))else(ck.j3 (ck.l4 k) k a1 l1 x7 x8)
def ck.l4:Nat→Int→List (Int)→Int→Int→Option ((Int×Bool)×List Int)
 |0,_,_,_,_=>none
 |k+1,a1,l1,x10,x11=>bif decide (x10≤x11)then(an (decide ((0:Int)≤x11∧x11<(l1.length:Int))) (an (decide ((0:Int)≤a1∧a1<(l1.length:Int))) ((eI.f (at_ 0 l1 x11) (at_ 0 l1 a1)).bind fun x12=>bif !x12 then(ck.l4 k a1 l1 x10 (I W (x11-1)))else(ck.j4 (ck.l2 k) k a1 l1 x10 x11))))else(ck.j4 (ck.l2 k) k a1 l1 x10 x11)
end
def ck.f(k:Nat)(l0_:List Int)(a1 a2 a3:Int):Option ((Int×Bool)×List Int):=an (decide ((0:Int)≤a3∧a3<(l0_.length:Int))) (an (decide ((0:Int)≤a1∧a1<(l0_.length:Int))) (an (decide ((0:Int)≤a1∧a1<(l0_.length:Int))) (an (decide ((0:Int)≤a3∧a3<((l0_.set a1.toNat (at_ 0 l0_ a3)).length:Int))) (ck.l0 k l0_ a1 a2 a3 (I W (a1+1))))))
theorem ck.calls{l0_:List Int}{a1 a2 a3:Int}{r:(Int×Bool)×List Int}(hf:(Y9 v0_ l0_).inv w0)(E:ck.f k l0_ a1 a2 a3=some r):
 Calls aa 369 #[v0_,ii a1,ii a2,ii a3] w0 fun e w'=>e= .returned (.tuple #[ii r.1.1,.bool r.1.2])∧St (Y9 v0_ l0_).fp w0 w' [Y9 v0_ r.2]:=by
 have H:=St.start hf
 unfold ck.f at E
 refine Zb func369 ?_
 refine A_ ?_
 refine eZ (ds:=[15]) (fun w=>∃l':List Int,l'.length=l0_.length∧St (Y9 v0_ l0_).fp w0 w [Y9 v0_ l']) bZ H z z ?_
 have H:=H.drew
 refine B_ [0,1,2,3,4,5] ⟨_,j_,H⟩ ?_
 obtain⟨⟨g9,g1⟩,E⟩:=ar E
 refine wz 6 z ⟨_,j_,H⟩ (fun w ⟨l',e',H⟩=>ey e' aN (ao (H.Gt 0 z)) z z g9 (by simpa using g1)) (B_ [8,9] ⟨_,j_,H⟩ ?_)
 obtain⟨⟨g2,g3⟩,E⟩:=ar E
 refine wz 10 z ⟨_,j_,H⟩ (fun w ⟨l',e',H⟩=>ey e' aN (ao (H.Gt 0 z)) z z g2 (by simpa using g3)) (qn (i:=7) (j:=11) (li:=tf 11 16) (lj:=#[true,true,true,true,true,true,true,false,true,true,true,true,false,false,false,false]) (l':=tf 12 16) z z z z z z z z z d_ d_ d_ ⟨_,j_,H⟩ (bq bC (ao (H.Gt 0 z)) g9 g1 z) (bq bC (ao (H.Gt 0 z)) g9 g1 z) (bq bC (ao (H.Gt 0 z)) g2 g3 z) (bq bC (ao (H.Gt 0 z)) g2 g3 z) ?_)
 obtain⟨⟨g4,g5⟩,E⟩:=ar E
 refine wz 12 z ⟨_,j_,H⟩ (fun w ⟨l',e',H⟩=>ey e' aN (ao (H.Gt 0 z)) z z g4 (by simpa using g5)) (wo 13 z (dc dB H 0 z g4 g5 z z (fun w H=>⟨fun _=>⟨_,j_,H.ag [0] z z⟩,?_⟩)))
 obtain⟨⟨g6,g7⟩,E⟩:=ar E
 refine wz 14 z ⟨_,j_,H.ag [0] z z⟩ (fun w ⟨l',e',H⟩=>ey e' aN (ao (H.Gt 0 z)) z z g6 (by simpa using g7)) (wo 15 z (dc dB H 0 z g6 g7 z z (fun w H=>⟨fun h=>(h f_).elim,wd (J_ ?_)⟩)))
 refine cA (fun t w=>∃(k1:Nat)(x1:Int)(t1:Fr),k1≤k∧ck.j0 (ck.l1 k1) k1 l0_ a1 a2 a3 x1=some r∧t=aU t1 [(0,v0_),(1,ii a1),(8,ii 0),(9,.bool false),(10,ii x1),(11,ii (I W (a2-1))),Zc]∧St (Y9 v0_ l0_).fp w0 w [Y9 v0_ ((l0_.set a1.toNat (at_ 0 l0_ a3)).set a3.toNat (at_ 0 l0_ a1))]) ?_ ?_
 ·refine aG ?_
  refine bx (fun kk t w=>∃(x2:Int)(t2:Fr),kk≤k∧ck.l0 kk l0_ a1 a2 a3 x2=some r∧t=aU t2 [(0,v0_),(1,ii a1),(8,ii 0),(9,.bool false),(10,ii x2),(11,ii (I W (a2-1))),Zc]∧St (Y9 v0_ l0_).fp w0 w [Y9 v0_ ((l0_.set a1.toNat (at_ 0 l0_ a3)).set a3.toNat (at_ 0 l0_ a1))]) k Ze ?_
  rintro kk t w ⟨x2,t2,hk1,E,rfl,H⟩
  obtain⟨k2,rfl⟩:=Zd kk
  rw[ck.l0]at E
  refine ae (ae (cd (ds:=[]) bZ H z z ?_))
  have H:=H.drew
  refine B_ [0,1,2,3] H ?_
  rcases bR (decide (x2≤I W (a2-1)))with c1|c1
  ·have E:=iT c1 E
   refine B_ [4,5] H ?_
   obtain⟨⟨g8,g17⟩,E⟩:=ar E
   refine B_ [6,7,8,9] H ?_
   obtain⟨⟨g18,g19⟩,E⟩:=ar E
   refine B_ [10,11] H ?_
   refine wp 12 z z z c1 (E9 kN H E (fun _=>eI.calls) (fun x3 E w H=>⟨fun _=>H.Y8 [0],B_ [13] (H.Y8 [0]) ?_⟩))
   refine aE E z ?_ ?_<;>intro c2 E<;>refine A_ ?_
   ·exact⟨k2,bL _,_,_,bK hk1,E,Za,H⟩
   exact⟨k2,_,_,a_,E,Za,H⟩
  have E:=iF c1 E
  refine B_ [4,5,6,7,8,9,10,11,12,13] H ?_
  exact⟨k2,_,_,a_,E,Za,H⟩
 rintro t w ⟨k1,x1,t1,hk2,E,rfl,H⟩
 unfold ck.j0 at E
 refine cA (fun t w=>∃(k3:Nat)(x4:Int)(t3:Fr),k3≤k1∧ck.j1 (ck.l2 k3) k3 l0_ a1 a3 x1 x4=some r∧t=aU t3 [(0,v0_),(1,ii a1),(8,ii 0),(9,.bool false),(10,ii x1),(11,ii x4),Zc]∧St (Y9 v0_ l0_).fp w0 w [Y9 v0_ ((l0_.set a1.toNat (at_ 0 l0_ a3)).set a3.toNat (at_ 0 l0_ a1))]) ?_ ?_
 ·refine aG ?_
  refine bx (fun kk t w=>∃(x5:Int)(t4:Fr),kk≤k1∧ck.l1 kk l0_ a1 a3 x1 x5=some r∧t=aU t4 [(0,v0_),(1,ii a1),(8,ii 0),(9,.bool false),(10,ii x1),(11,ii x5),Zc]∧St (Y9 v0_ l0_).fp w0 w [Y9 v0_ ((l0_.set a1.toNat (at_ 0 l0_ a3)).set a3.toNat (at_ 0 l0_ a1))]) k1 Ze ?_
  rintro kk t w ⟨x5,t4,hk3,E,rfl,H⟩
  obtain⟨k4,rfl⟩:=Zd kk
  rw[ck.l1]at E
  refine ae (ae (cd (ds:=[]) bZ H z z ?_))
  have H:=H.drew
  refine B_ [0,1,2,3] H ?_
  rcases bR (decide (x1≤x5))with c3|c3
  ·have E:=iT c3 E
   refine B_ [4,5] H ?_
   obtain⟨⟨g20,g21⟩,E⟩:=ar E
   refine B_ [6,7,8,9] H ?_
   obtain⟨⟨g22,g23⟩,E⟩:=ar E
   refine B_ [10,11] H ?_
   refine wp 12 z z z c3 (E9 kN H E (fun _=>eI.calls) (fun x6 E w H=>⟨fun _=>H.Y8 [0],B_ [13,14] (H.Y8 [0]) ?_⟩))
   refine aE E z ?_ ?_<;>intro c4 E<;>refine A_ ?_
   ·exact⟨k4,bL _,_,_,bK hk3,E,Za,H⟩
   exact⟨k4,_,_,a_,E,Za,H⟩
  have E:=iF c3 E
  refine B_ [4,5,6,7,8,9,10,11,12,13,14] H ?_
  exact⟨k4,_,_,a_,E,Za,H⟩
 rintro t w ⟨k3,x4,t3,hk4,E,rfl,H⟩
 unfold ck.j1 at E
 refine A_ ?_
 refine aE E z ?_ ?_<;>intro c5 E
 ·refine ae (eZ (ds:=[15]) (fun w=>∃l':List Int,l'.length=((l0_.set a1.toNat (at_ 0 l0_ a3)).set a3.toNat (at_ 0 l0_ a1)).length∧St (Y9 v0_ l0_).fp w0 w [Y9 v0_ l']) bZ H z z ?_)
  have H:=H.drew
  refine B_ [0,1,2,3,4,5] ⟨_,j_,H⟩ ?_
  obtain⟨⟨g24,g25⟩,E⟩:=ar E
  refine wz 6 z ⟨_,j_,H⟩ (fun w ⟨l',e',H⟩=>ey e' aN (ao (H.Gt 0 z)) z z g24 (by simpa using g25)) (B_ [8,9] ⟨_,j_,H⟩ ?_)
  obtain⟨⟨g26,g27⟩,E⟩:=ar E
  refine wz 10 z ⟨_,j_,H⟩ (fun w ⟨l',e',H⟩=>ey e' aN (ao (H.Gt 0 z)) z z g26 (by simpa using g27)) (qn (i:=7) (j:=11) (li:=tf 11 16) (lj:=#[true,true,true,true,true,true,true,false,true,true,true,true,false,false,false,false]) (l':=tf 12 16) z z z z z z z z z d_ d_ d_ ⟨_,j_,H⟩ (bq bC (ao (H.Gt 0 z)) g24 g25 z) (bq bC (ao (H.Gt 0 z)) g24 g25 z) (bq bC (ao (H.Gt 0 z)) g26 g27 z) (bq bC (ao (H.Gt 0 z)) g26 g27 z) ?_)
  obtain⟨⟨g28,g29⟩,E⟩:=ar E
  refine wz 12 z ⟨_,j_,H⟩ (fun w ⟨l',e',H⟩=>ey e' aN (ao (H.Gt 0 z)) z z g28 (by simpa using g29)) (wo 13 z (dc dB H 0 z g28 g29 z z (fun w H=>⟨fun _=>⟨_,j_,H.ag [0] z z⟩,?_⟩)))
  obtain⟨⟨g30,g31⟩,E⟩:=ar E
  refine wz 14 z ⟨_,j_,H.ag [0] z z⟩ (fun w ⟨l',e',H⟩=>ey e' aN (ao (H.Gt 0 z)) z z g30 (by simpa using g31)) (wo 15 z (dc dB H 0 z g30 g31 z z (fun w H=>⟨fun h=>(h f_).elim,wd (A_ ?_)⟩)))
  cases E
  exact(aL ⟨.inl z,_,tk0 z ⟨aB z (ad (ad ai)),z,H.bA 0 z⟩⟩)
 refine aA (ab (ae (eZ (ds:=[15]) (fun w=>∃l':List Int,l'.length=((l0_.set a1.toNat (at_ 0 l0_ a3)).set a3.toNat (at_ 0 l0_ a1)).length∧St (Y9 v0_ l0_).fp w0 w [Y9 v0_ l']) bZ H z z ?_)))
 have H:=H.drew
 refine B_ [0,1,2,3,4,5] ⟨_,j_,H⟩ ?_
 obtain⟨⟨g32,g33⟩,E⟩:=ar E
 refine wz 6 z ⟨_,j_,H⟩ (fun w ⟨l',e',H⟩=>ey e' aN (ao (H.Gt 0 z)) z z g32 (by simpa using g33)) (B_ [8,9] ⟨_,j_,H⟩ ?_)
 obtain⟨⟨g34,g35⟩,E⟩:=ar E
 refine wz 10 z ⟨_,j_,H⟩ (fun w ⟨l',e',H⟩=>ey e' aN (ao (H.Gt 0 z)) z z g34 (by simpa using g35)) (qn (i:=7) (j:=11) (li:=tf 11 16) (lj:=#[true,true,true,true,true,true,true,false,true,true,true,true,false,false,false,false]) (l':=tf 12 16) z z z z z z z z z d_ d_ d_ ⟨_,j_,H⟩ (bq bC (ao (H.Gt 0 z)) g32 g33 z) (bq bC (ao (H.Gt 0 z)) g32 g33 z) (bq bC (ao (H.Gt 0 z)) g34 g35 z) (bq bC (ao (H.Gt 0 z)) g34 g35 z) ?_)
 obtain⟨⟨g36,g37⟩,E⟩:=ar E
 refine wz 12 z ⟨_,j_,H⟩ (fun w ⟨l',e',H⟩=>ey e' aN (ao (H.Gt 0 z)) z z g36 (by simpa using g37)) (wo 13 z (dc dB H 0 z g36 g37 z z (fun w H=>⟨fun _=>⟨_,j_,H.ag [0] z z⟩,?_⟩)))
 obtain⟨⟨g38,g39⟩,E⟩:=ar E
 refine wz 14 z ⟨_,j_,H.ag [0] z z⟩ (fun w ⟨l',e',H⟩=>ey e' aN (ao (H.Gt 0 z)) z z g38 (by simpa using g39)) (wo 15 z (dc dB H 0 z g38 g39 z z (fun w H=>⟨fun h=>(h f_).elim,wd (J_ ?_)⟩)))
 refine cA (fun t w=>∃(k5:Nat)(l1:List Int)(x7:Int)(t5:Fr),k5≤k3∧ck.j2 k5 a1 l1 x7=some r∧t=aU t5 [(0,v0_),(1,ii a1),(8,ii 0),(9,.bool false),(11,ii x7),Zc]∧St (Y9 v0_ l0_).fp w0 w [Y9 v0_ l1]) ?_ ?_
 ·refine aG ?_
  refine bx (fun kk t w=>∃(l2:List Int)(x8 x9:Int)(t6:Fr),kk≤k3∧ck.l2 kk a1 l2 x8 x9=some r∧t=aU t6 [(0,v0_),(1,ii a1),(8,ii 0),(9,.bool false),(10,ii x8),(11,ii x9),Zc]∧St (Y9 v0_ l0_).fp w0 w [Y9 v0_ l2]) k3 Ze ?_
  rintro kk t w ⟨l2,x8,x9,t6,hk5,E,rfl,H⟩
  obtain⟨k6,rfl⟩:=Zd kk
  rw[ck.l2]at E
  refine aG ?_
  refine cA (fun t w=>∃(k7:Nat)(x10:Int)(t7:Fr),k7≤k6∧ck.j3 (ck.l4 k7) k7 a1 l2 x9 x10=some r∧t=aU t7 [(0,v0_),(1,ii a1),(8,ii 0),(9,.bool false),(10,ii x10),(11,ii x9),Zc]∧St (Y9 v0_ l0_).fp w0 w [Y9 v0_ l2]) ?_ ?_
  ·refine aG ?_
   refine bx (fun kk t w=>∃(x11:Int)(t8:Fr),kk≤k6∧ck.l3 kk a1 l2 x9 x11=some r∧t=aU t8 [(0,v0_),(1,ii a1),(8,ii 0),(9,.bool false),(10,ii x11),(11,ii x9),Zc]∧St (Y9 v0_ l0_).fp w0 w [Y9 v0_ l2]) k6 Ze ?_
   rintro kk t w ⟨x11,t8,hk6,E,rfl,H⟩
   obtain⟨k8,rfl⟩:=Zd kk
   rw[ck.l3]at E
   refine ae (ae (cd (ds:=[]) bZ H z z ?_))
   have H:=H.drew
   refine B_ [0,1,2,3] H ?_
   rcases bR (decide (x11≤x9))with c6|c6
   ·have E:=iT c6 E
    refine B_ [4,5] H ?_
    obtain⟨⟨g40,g41⟩,E⟩:=ar E
    refine B_ [6,7,8,9] H ?_
    obtain⟨⟨g42,g43⟩,E⟩:=ar E
    refine B_ [10,11] H ?_
    refine wp 12 z z z c6 (E9 kN H E (fun _=>eI.calls) (fun x12 E w H=>⟨fun _=>H.Y8 [0],B_ [13] (H.Y8 [0]) ?_⟩))
    refine aE E z ?_ ?_<;>intro c7 E<;>refine A_ ?_
    ·exact⟨k8,bL _,_,_,bK hk6,E,Za,H⟩
    exact⟨k8,_,_,a_,E,Za,H⟩
   have E:=iF c6 E
   refine B_ [4,5,6,7,8,9,10,11,12,13] H ?_
   exact⟨k8,_,_,a_,E,Za,H⟩
  rintro t w ⟨k7,x10,t7,hk7,E,rfl,H⟩
  unfold ck.j3 at E
  refine cA (fun t w=>∃(k9:Nat)(x13:Int)(t9:Fr),k9≤k7∧ck.j4 (ck.l2 k9) k9 a1 l2 x10 x13=some r∧t=aU t9 [(0,v0_),(1,ii a1),(8,ii 0),(9,.bool false),(10,ii x10),(11,ii x13),Zc]∧St (Y9 v0_ l0_).fp w0 w [Y9 v0_ l2]) ?_ ?_
  ·refine aG ?_
   refine bx (fun kk t w=>∃(x14:Int)(t10:Fr),kk≤k7∧ck.l4 kk a1 l2 x10 x14=some r∧t=aU t10 [(0,v0_),(1,ii a1),(8,ii 0),(9,.bool false),(10,ii x10),(11,ii x14),Zc]∧St (Y9 v0_ l0_).fp w0 w [Y9 v0_ l2]) k7 Ze ?_
   rintro kk t w ⟨x14,t10,hk8,E,rfl,H⟩
   obtain⟨k10,rfl⟩:=Zd kk
   rw[ck.l4]at E
   refine ae (ae (cd (ds:=[]) bZ H z z ?_))
   have H:=H.drew
   refine B_ [0,1,2,3] H ?_
   rcases bR (decide (x10≤x14))with c8|c8
   ·have E:=iT c8 E
    refine B_ [4,5] H ?_
    obtain⟨⟨g44,g45⟩,E⟩:=ar E
    refine B_ [6,7,8,9] H ?_
    obtain⟨⟨g46,g47⟩,E⟩:=ar E
    refine B_ [10,11] H ?_
    refine wp 12 z z z c8 (E9 kN H E (fun _=>eI.calls) (fun x15 E w H=>⟨fun _=>H.Y8 [0],B_ [13,14] (H.Y8 [0]) ?_⟩))
    refine aE E z ?_ ?_<;>intro c9 E<;>refine A_ ?_
    ·exact⟨k10,bL _,_,_,bK hk8,E,Za,H⟩
    exact⟨k10,_,_,a_,E,Za,H⟩
   have E:=iF c8 E
   refine B_ [4,5,6,7,8,9,10,11,12,13,14] H ?_
   exact⟨k10,_,_,a_,E,Za,H⟩
  rintro t w ⟨k9,x13,t9,hk9,E,rfl,H⟩
  unfold ck.j4 at E
  refine A_ ?_
  refine aE E z ?_ ?_<;>intro c10 E
  ·refine bt (aM (qs z (A_ ?_)))
   exact⟨k9,_,_,_,a_,E,Za,H⟩
  refine aA (ab (ae (eZ (ds:=[15]) (fun w=>∃l':List Int,l'.length=l2.length∧St (Y9 v0_ l0_).fp w0 w [Y9 v0_ l']) bZ H z z ?_)))
  have H:=H.drew
  refine B_ [0,1,2,3,4,5] ⟨_,j_,H⟩ ?_
  obtain⟨⟨g48,g49⟩,E⟩:=ar E
  refine wz 6 z ⟨_,j_,H⟩ (fun w ⟨l',e',H⟩=>ey e' aN (ao (H.Gt 0 z)) z z g48 (by simpa using g49)) (B_ [8,9] ⟨_,j_,H⟩ ?_)
  obtain⟨⟨g50,g51⟩,E⟩:=ar E
  refine wz 10 z ⟨_,j_,H⟩ (fun w ⟨l',e',H⟩=>ey e' aN (ao (H.Gt 0 z)) z z g50 (by simpa using g51)) (qn (i:=7) (j:=11) (li:=tf 11 16) (lj:=#[true,true,true,true,true,true,true,false,true,true,true,true,false,false,false,false]) (l':=tf 12 16) z z z z z z z z z d_ d_ d_ ⟨_,j_,H⟩ (bq bC (ao (H.Gt 0 z)) g48 g49 z) (bq bC (ao (H.Gt 0 z)) g48 g49 z) (bq bC (ao (H.Gt 0 z)) g50 g51 z) (bq bC (ao (H.Gt 0 z)) g50 g51 z) ?_)
  obtain⟨⟨g52,g53⟩,E⟩:=ar E
  refine wz 12 z ⟨_,j_,H⟩ (fun w ⟨l',e',H⟩=>ey e' aN (ao (H.Gt 0 z)) z z g52 (by simpa using g53)) (wo 13 z (dc dB H 0 z g52 g53 z z (fun w H=>⟨fun _=>⟨_,j_,H.ag [0] z z⟩,?_⟩)))
  obtain⟨⟨g54,g55⟩,E⟩:=ar E
  refine wz 14 z ⟨_,j_,H.ag [0] z z⟩ (fun w ⟨l',e',H⟩=>ey e' aN (ao (H.Gt 0 z)) z z g54 (by simpa using g55)) (wo 15 z (dc dB H 0 z g54 g55 z z (fun w H=>⟨fun h=>(h f_).elim,wd (A_ ?_)⟩)))
  exact⟨k9,a_,_,_,_,_,a_,E,Za,H⟩
 rintro t w ⟨k5,l1,x7,t5,hk10,E,rfl,H⟩
 unfold ck.j2 at E
 refine ae (eZ (ds:=[15]) (fun w=>∃l':List Int,l'.length=l1.length∧St (Y9 v0_ l0_).fp w0 w [Y9 v0_ l']) bZ H z z ?_)
 have H:=H.drew
 refine B_ [0,1,2,3,4,5] ⟨_,j_,H⟩ ?_
 obtain⟨⟨g56,g57⟩,E⟩:=ar E
 refine wz 6 z ⟨_,j_,H⟩ (fun w ⟨l',e',H⟩=>ey e' aN (ao (H.Gt 0 z)) z z g56 (by simpa using g57)) (B_ [8,9] ⟨_,j_,H⟩ ?_)
 obtain⟨⟨g58,g59⟩,E⟩:=ar E
 refine wz 10 z ⟨_,j_,H⟩ (fun w ⟨l',e',H⟩=>ey e' aN (ao (H.Gt 0 z)) z z g58 (by simpa using g59)) (qn (i:=7) (j:=11) (li:=tf 11 16) (lj:=#[true,true,true,true,true,true,true,false,true,true,true,true,false,false,false,false]) (l':=tf 12 16) z z z z z z z z z d_ d_ d_ ⟨_,j_,H⟩ (bq bC (ao (H.Gt 0 z)) g56 g57 z) (bq bC (ao (H.Gt 0 z)) g56 g57 z) (bq bC (ao (H.Gt 0 z)) g58 g59 z) (bq bC (ao (H.Gt 0 z)) g58 g59 z) ?_)
 obtain⟨⟨g60,g61⟩,E⟩:=ar E
 refine wz 12 z ⟨_,j_,H⟩ (fun w ⟨l',e',H⟩=>ey e' aN (ao (H.Gt 0 z)) z z g60 (by simpa using g61)) (wo 13 z (dc dB H 0 z g60 g61 z z (fun w H=>⟨fun _=>⟨_,j_,H.ag [0] z z⟩,?_⟩)))
 obtain⟨⟨g62,g63⟩,E⟩:=ar E
 refine wz 14 z ⟨_,j_,H.ag [0] z z⟩ (fun w ⟨l',e',H⟩=>ey e' aN (ao (H.Gt 0 z)) z z g62 (by simpa using g63)) (wo 15 z (dc dB H 0 z g62 g63 z z (fun w H=>⟨fun h=>(h f_).elim,wd (A_ ?_)⟩)))
 cases E
 exact⟨.inl z,_,tk0 z ⟨aB z (ad (ad ai)),z,H.bA 0 z⟩⟩
end Go.Proofs.YtmhkpafkadijgaaGreatDoor.Gw
