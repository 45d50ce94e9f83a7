/- A part of the proof of Rows.PlayAskedCardSaid; the conditions are that card's own. -/
import Derived.Test.YtmhkpafkadijgaaGreatDoorQ16
set_option linter.all false
set_option maxRecDepth 100000
set_option maxHeartbeats 4000000
namespace Go.Proofs.YtmhkpafkadijgaaGreatDoor.Gw
open Go Go.RowKit
variable[de]
open Go.IntKind (i8 i16 i32 i64 u8 u16 u32 u64)
open Tryz renaming prog → aa
def ck.j0(l1r:List Int→Int→Int→Int→Int→Option ((Int×Bool)×List Int))(k:Nat)(l0_:List Int)(a1 a2 a3 x1:Int):Option ((Int×Bool)×List Int):=l1r l0_ a1 a3 x1 (i64.wrap (a2-1))
def ck.j1(l2r:Int→List (Int)→Int→Int→Option ((Int×Bool)×List Int))(k:Nat)(l0_:List Int)(a1 a3 x1 x2:Int):Option ((Int×Bool)×List Int):=bif decide (x2<x1)then(an (decide ((0:Int)≤a1∧a1<(((l0_.set a1.toNat (at_ 0 l0_ a3)).set a3.toNat (at_ 0 l0_ a1)).length:Int))) (an (decide ((0:Int)≤x2∧x2<(((l0_.set a1.toNat (at_ 0 l0_ a3)).set a3.toNat (at_ 0 l0_ a1)).length:Int))) (an (decide ((0:Int)≤x2∧x2<(((l0_.set a1.toNat (at_ 0 l0_ a3)).set a3.toNat (at_ 0 l0_ a1)).length:Int))) (an (decide ((0:Int)≤a1∧a1<((((l0_.set a1.toNat (at_ 0 l0_ a3)).set a3.toNat (at_ 0 l0_ a1)).set x2.toNat (at_ 0 ((l0_.set a1.toNat (at_ 0 l0_ a3)).set a3.toNat (at_ 0 l0_ a1)) a1)).length:Int))) (some ((x2,true),(((l0_.set a1.toNat (at_ 0 l0_ a3)).set a3.toNat (at_ 0 l0_ a1)).set x2.toNat (at_ 0 ((l0_.set a1.toNat (at_ 0 l0_ a3)).set a3.toNat (at_ 0 l0_ a1)) a1)).set a1.toNat (at_ 0 ((l0_.set a1.toNat (at_ 0 l0_ a3)).set a3.toNat (at_ 0 l0_ a1)) x2)))))))else(an (decide ((0:Int)≤x2∧x2<(((l0_.set a1.toNat (at_ 0 l0_ a3)).set a3.toNat (at_ 0 l0_ a1)).length:Int))) (an (decide ((0:Int)≤x1∧x1<(((l0_.set a1.toNat (at_ 0 l0_ a3)).set a3.toNat (at_ 0 l0_ a1)).length:Int))) (an (decide ((0:Int)≤x1∧x1<(((l0_.set a1.toNat (at_ 0 l0_ a3)).set a3.toNat (at_ 0 l0_ a1)).length:Int))) (an (decide ((0:Int)≤x2∧x2<((((l0_.set a1.toNat (at_ 0 l0_ a3)).set a3.toNat (at_ 0 l0_ a1)).set x1.toNat (at_ 0 ((l0_.set a1.toNat (at_ 0 l0_ a3)).set a3.toNat (at_ 0 l0_ a1)) x2)).length:Int))) (l2r a1 ((((l0_.set a1.toNat (at_ 0 l0_ a3)).set a3.toNat (at_ 0 l0_ a1)).set x1.toNat (at_ 0 ((l0_.set a1.toNat (at_ 0 l0_ a3)).set a3.toNat (at_ 0 l0_ a1)) x2)).set x2.toNat (at_ 0 ((l0_.set a1.toNat (at_ 0 l0_ a3)).set a3.toNat (at_ 0 l0_ a1)) x1)) (i64.wrap (x1+1)) (i64.wrap (x2-1)))))))
def ck.j2(k:Nat)(a1:Int)(l1:List Int)(x1:Int):Option ((Int×Bool)×List Int):=an (decide ((0:Int)≤a1∧a1<(l1.length:Int))) (an (decide ((0:Int)≤x1∧x1<(l1.length:Int))) (an (decide ((0:Int)≤x1∧x1<(l1.length:Int))) (an (decide ((0:Int)≤a1∧a1<((l1.set x1.toNat (at_ 0 l1 a1)).length:Int))) (some ((x1,false),(l1.set x1.toNat (at_ 0 l1 a1)).set a1.toNat (at_ 0 l1 x1))))))
def ck.j3(l4r:Int→List (Int)→Int→Int→Option ((Int×Bool)×List Int))(k:Nat)(a1:Int)(l1:List Int)(x1 x2:Int):Option ((Int×Bool)×List Int):=l4r a1 l1 x2 x1
def ck.j4(l2r:Int→List (Int)→Int→Int→Option ((Int×Bool)×List Int))(k:Nat)(a1:Int)(l1:List Int)(x1 x2:Int):Option ((Int×Bool)×List Int):=bif decide (x2<x1)then(ck.j2 k a1 l1 x2)else(an (decide ((0:Int)≤x2∧x2<(l1.length:Int))) (an (decide ((0:Int)≤x1∧x1<(l1.length:Int))) (an (decide ((0:Int)≤x1∧x1<(l1.length:Int))) (an (decide ((0:Int)≤x2∧x2<((l1.set x1.toNat (at_ 0 l1 x2)).length:Int))) (l2r a1 ((l1.set x1.toNat (at_ 0 l1 x2)).set x2.toNat (at_ 0 l1 x1)) (i64.wrap (x1+1)) (i64.wrap (x2-1)))))))
mutual
def ck.l0:Nat→List Int→Int→Int→Int→Int→Option ((Int×Bool)×List Int)
 |0,_,_,_,_,_=>none
 |k+1,l0_,a1,a2,a3,x1=>bif decide (x1≤i64.wrap (a2-1))then(an (decide ((0:Int)≤x1∧x1<(((l0_.set a1.toNat (at_ 0 l0_ a3)).set a3.toNat (at_ 0 l0_ a1)).length:Int))) (an (decide ((0:Int)≤a1∧a1<(((l0_.set a1.toNat (at_ 0 l0_ a3)).set a3.toNat (at_ 0 l0_ a1)).length:Int))) ((eI.f (at_ 0 ((l0_.set a1.toNat (at_ 0 l0_ a3)).set a3.toNat (at_ 0 l0_ a1)) x1) (at_ 0 ((l0_.set a1.toNat (at_ 0 l0_ a3)).set a3.toNat (at_ 0 l0_ a1)) a1)).bind fun x2=>bif x2 then(ck.l0 k l0_ a1 a2 a3 (i64.wrap (x1+1)))else(ck.j0 (ck.l1 k) k l0_ a1 a2 a3 x1))))else(ck.j0 (ck.l1 k) k l0_ a1 a2 a3 x1)
def ck.l1:Nat→List Int→Int→Int→Int→Int→Option ((Int×Bool)×List Int)
 |0,_,_,_,_,_=>none
 |k+1,l0_,a1,a3,x3,x4=>bif decide (x3≤x4)then(an (decide ((0:Int)≤x4∧x4<(((l0_.set a1.toNat (at_ 0 l0_ a3)).set a3.toNat (at_ 0 l0_ a1)).length:Int))) (an (decide ((0:Int)≤a1∧a1<(((l0_.set a1.toNat (at_ 0 l0_ a3)).set a3.toNat (at_ 0 l0_ a1)).length:Int))) ((eI.f (at_ 0 ((l0_.set a1.toNat (at_ 0 l0_ a3)).set a3.toNat (at_ 0 l0_ a1)) x4) (at_ 0 ((l0_.set a1.toNat (at_ 0 l0_ a3)).set a3.toNat (at_ 0 l0_ a1)) a1)).bind fun x5=>bif !x5 then(ck.l1 k l0_ a1 a3 x3 (i64.wrap (x4-1)))else(ck.j1 (ck.l2 k) k l0_ a1 a3 x3 x4))))else(ck.j1 (ck.l2 k) k l0_ a1 a3 x3 x4)
def ck.l2:Nat→Int→List (Int)→Int→Int→Option ((Int×Bool)×List Int)
 |0,_,_,_,_=>none
 |k+1,a1,l1,x6,x7=>ck.l3 k a1 l1 x7 x6
def ck.l3:Nat→Int→List (Int)→Int→Int→Option ((Int×Bool)×List Int)
 |0,_,_,_,_=>none
 |k+1,a1,l1,x7,x8=>bif decide (x8≤x7)then(an (decide ((0:Int)≤x8∧x8<(l1.length:Int))) (an (decide ((0:Int)≤a1∧a1<(l1.length:Int))) ((eI.f (at_ 0 l1 x8) (at_ 0 l1 a1)).bind fun x9=>bif x9 then(ck.l3 k a1 l1 x7 (i64.wrap (x8+1)))else(ck.j3 (ck.l4 k) k a1 l1 x7 x8))))else(ck.j3 (ck.l4 k) k a1 l1 x7 x8)
def ck.l4:Nat→Int→List (Int)→Int→Int→Option ((Int×Bool)×List Int)
 |0,_,_,_,_=>none
 |k+1,a1,l1,x10,x11=>bif decide (x10≤x11)then(an (decide ((0:Int)≤x11∧x11<(l1.length:Int))) (an (decide ((0:Int)≤a1∧a1<(l1.length:Int))) ((eI.f (at_ 0 l1 x11) (at_ 0 l1 a1)).bind fun x12=>bif !x12 then(ck.l4 k a1 l1 x10 (i64.wrap (x11-1)))else(ck.j4 (ck.l2 k) k a1 l1 x10 x11))))else(ck.j4 (ck.l2 k) k a1 l1 x10 x11)
end
def ck.f(k:Nat)(l0_:List Int)(a1 a2 a3:Int):Option ((Int×Bool)×List Int):=an (decide ((0:Int)≤a3∧a3<(l0_.length:Int))) (an (decide ((0:Int)≤a1∧a1<(l0_.length:Int))) (an (decide ((0:Int)≤a1∧a1<(l0_.length:Int))) (an (decide ((0:Int)≤a3∧a3<((l0_.set a1.toNat (at_ 0 l0_ a3)).length:Int))) (ck.l0 k l0_ a1 a2 a3 (i64.wrap (a1+1))))))
theorem ck.calls{w0:World}{k:Nat}{v0_:Value}{l0_:List Int}{a1 a2 a3:Int}{r:(Int×Bool)×List Int}(hf:(Rs.own (.int .u8) 5 v0_ l0_).inv w0)(E:ck.f k l0_ a1 a2 a3=some r):
 Calls aa 369 #[v0_,ii a1,ii a2,ii a3] w0 fun e w'=>e= .returned (.tuple #[ii r.1.1,.bool r.1.2])∧St (Rs.own (.int .u8) 5 v0_ l0_).fp w0 w' [.own (.int .u8) 5 v0_ r.2]:=by
 have H:=St.start hf
 unfold ck.f at E
 refine aP (N:=168) (args:=[v0_,ii a1,ii a2,ii a3]) Tryz.func369 z z (by simp) ?_
 refine rg (va (ii 0) (va (.bool false) (nl (ae (eZ (ds:=[15]) (fun w=>∃l':List Int,l'.length=l0_.length∧St (Rs.own (.int .u8) 5 v0_ l0_).fp w0 w [.own (.int .u8) 5 v0_ l']) bZ H z z ?_)))))
 have H:=H.drew
 refine wm 0 z ⟨_,by simp,H⟩ v0_ (wm 1 z ⟨_,by simp,H⟩ (ii a1) (wm 2 z ⟨_,by simp,H⟩ v0_ (wm 3 z ⟨_,by simp,H⟩ (ii a3) (wm 4 z ⟨_,by simp,H⟩ v0_ (wm 5 z ⟨_,by simp,H⟩ (ii a3) ?_)))))
 obtain⟨⟨g9,g1⟩,E⟩:=ar E
 refine wz 6 z ⟨_,by simp,H⟩ (fun w ⟨l',e',H⟩=>ey e' aN (ao (H.Gt 0 z)) z z g9 (by simpa using g1)) (wm 8 z ⟨_,by simp,H⟩ v0_ (wm 9 z ⟨_,by simp,H⟩ (ii a1) ?_))
 obtain⟨⟨g2,g3⟩,E⟩:=ar E
 refine wz 10 z ⟨_,by simp,H⟩ (fun w ⟨l',e',H⟩=>ey e' aN (ao (H.Gt 0 z)) z z g2 (by simpa using g3)) (qn (i:=7) (j:=11) (li:=tf 11 16) (lj:=#[true,true,true,true,true,true,true,false,true,true,true,true,false,false,false,false]) (l':=tf 12 16) z z z z z z z z z (by kernel_rfl) (by kernel_rfl) (by kernel_rfl) ⟨_,by simp,H⟩ (bq bC (ao (H.Gt 0 z)) g9 g1 z) (bq bC (ao (H.Gt 0 z)) g9 g1 z) (bq bC (ao (H.Gt 0 z)) g2 g3 z) (bq bC (ao (H.Gt 0 z)) g2 g3 z) ?_)
 obtain⟨⟨g4,g5⟩,E⟩:=ar E
 refine wz 12 z ⟨_,by simp,H⟩ (fun w ⟨l',e',H⟩=>ey e' aN (ao (H.Gt 0 z)) z z g4 (by simpa using g5)) (wo 13 z (dc dB H 0 z g4 g5 z z (fun w H=>⟨fun _=>⟨_,by simp,H.ag [0] z z⟩,?_⟩)))
 obtain⟨⟨g6,g7⟩,E⟩:=ar E
 refine wz 14 z ⟨_,by simp,H.ag [0] z z⟩ (fun w ⟨l',e',H⟩=>ey e' aN (ao (H.Gt 0 z)) z z g6 (by simpa using g7)) (wo 15 z (dc dB H 0 z g6 g7 z z (fun w H=>⟨fun h=>(h (by decide)).elim,wd (ab (rg (vm (ii a1) (vr (aO z z) (vm (ii a2) (vr (bV z z) (va (ii (i64.wrap (a1+1))) (va (ii (i64.wrap (a2-1))) (nl ?_)))))))))⟩)))
 refine cA (fun t w=>∃(k1:Nat)(x1:Int)(t1:Fr),k1≤k∧ck.j0 (ck.l1 k1) k1 l0_ a1 a2 a3 x1=some r∧t=aU t1 [(0,v0_),(1,ii a1),(8,ii 0),(9,.bool false),(10,ii x1),(11,ii (i64.wrap (a2-1))),(1000000,undef)]∧St (Rs.own (.int .u8) 5 v0_ l0_).fp w0 w [.own (.int .u8) 5 v0_ ((l0_.set a1.toNat (at_ 0 l0_ a3)).set a3.toNat (at_ 0 l0_ a1))]) ?_ ?_
 ·refine aG ?_
  refine bx (fun kk t w=>∃(x2:Int)(t2:Fr),kk≤k∧ck.l0 kk l0_ a1 a2 a3 x2=some r∧t=aU t2 [(0,v0_),(1,ii a1),(8,ii 0),(9,.bool false),(10,ii x2),(11,ii (i64.wrap (a2-1))),(1000000,undef)]∧St (Rs.own (.int .u8) 5 v0_ l0_).fp w0 w [.own (.int .u8) 5 v0_ ((l0_.set a1.toNat (at_ 0 l0_ a3)).set a3.toNat (at_ 0 l0_ a1))]) k ?_ ?_
  ·exact⟨_,_,aI _,E,aD ⟨z,z,z,z,z,z,z,trivial⟩,H⟩
  rintro kk t w ⟨x2,t2,hk1,E,rfl,H⟩
  obtain⟨k2,rfl⟩|rfl:=ks kk
  rotate_left
  ·cases E
  rw[ck.l0]at E
  refine ae (ae (cd (ds:=[]) bZ H z z ?_))
  have H:=H.drew
  refine wm 0 z H (ii x2) (wm 1 z H (ii (i64.wrap (a2-1))) (wg 2 z H (gS z z) (wm 3 z H (.bool (decide (x2≤i64.wrap (a2-1)))) ?_)))
  rcases bR (decide (x2≤i64.wrap (a2-1)))with c1|c1
  ·have E:=iT c1 E
   refine wn 4 z z z c1 H (fun w H=>mv v0_ z) (wn 5 z z z c1 H (fun w H=>mv (ii x2) z) ?_)
   obtain⟨⟨g8,g17⟩,E⟩:=ar E
   refine wn 6 z z z c1 H (fun w H=>bo aN (ao (H.Gt 0 z)) z z g8 g17) (wn 7 z z z c1 H (fun w H=>bq bC (ao (H.Gt 0 z)) g8 g17 z) (wn 8 z z z c1 H (fun w H=>mv v0_ z) (wn 9 z z z c1 H (fun w H=>mv (ii a1) z) ?_)))
   obtain⟨⟨g18,g19⟩,E⟩:=ar E
   refine wn 10 z z z c1 H (fun w H=>bo aN (ao (H.Gt 0 z)) z z g18 g19) (wn 11 z z z c1 H (fun w H=>bq bC (ao (H.Gt 0 z)) g18 g19 z) ?_)
   obtain⟨x3,E1,E⟩:=ay E
   refine wp 12 z z z c1 (au kN z ((eI.calls E1).mono ?_))
   rintro _ w ⟨rfl,K⟩
   have H:=H.app K
   refine⟨_,z,⟨fun _=>H.ag [0] z z,wg 13 z (H.ag [0] z z) (pT (.bool x3) z z c1) (wd (ab ?_))⟩⟩
   refine aE E z (fun c2 E=>?_) (fun c2 E=>?_)
   ·refine aA (ab (aG (aH (vm (ii x2) (vr (aO z z) (va (ii (i64.wrap (x2+1))) (aK (aR ?_))))))))
    exact⟨k2,bL _,_,_,bK hk1,E,aD ⟨z,z,z,z,z,z,z,trivial⟩,H⟩
   ·refine bt (aM (aM (bu ?_)))
    exact⟨k2,_,_,by omega,E,aD ⟨z,z,z,z,z,z,z,trivial⟩,H⟩
  ·have E:=iF c1 E
   refine wf 4 z z z c1 H (wf 5 z z z c1 H (wf 6 z z z c1 H (wf 7 z z z c1 H (wf 8 z z z c1 H (wf 9 z z z c1 H (wf 10 z z z c1 H (wf 11 z z z c1 H (wf 12 z z z c1 H (wg 13 z H (pF (.bool false) z z c1) (wd (ab (bS z (bt (aM (aM (bu ?_))))))))))))))))
   exact⟨k2,_,_,by omega,E,aD ⟨z,z,z,z,z,z,z,trivial⟩,H⟩
 rintro t w ⟨k1,x1,t1,hk2,E,rfl,H⟩
 unfold ck.j0 at E
 refine cA (fun t w=>∃(k3:Nat)(x4:Int)(t3:Fr),k3≤k1∧ck.j1 (ck.l2 k3) k3 l0_ a1 a3 x1 x4=some r∧t=aU t3 [(0,v0_),(1,ii a1),(8,ii 0),(9,.bool false),(10,ii x1),(11,ii x4),(1000000,undef)]∧St (Rs.own (.int .u8) 5 v0_ l0_).fp w0 w [.own (.int .u8) 5 v0_ ((l0_.set a1.toNat (at_ 0 l0_ a3)).set a3.toNat (at_ 0 l0_ a1))]) ?_ ?_
 ·refine aG ?_
  refine bx (fun kk t w=>∃(x5:Int)(t4:Fr),kk≤k1∧ck.l1 kk l0_ a1 a3 x1 x5=some r∧t=aU t4 [(0,v0_),(1,ii a1),(8,ii 0),(9,.bool false),(10,ii x1),(11,ii x5),(1000000,undef)]∧St (Rs.own (.int .u8) 5 v0_ l0_).fp w0 w [.own (.int .u8) 5 v0_ ((l0_.set a1.toNat (at_ 0 l0_ a3)).set a3.toNat (at_ 0 l0_ a1))]) k1 ?_ ?_
  ·exact⟨_,_,aI _,E,aD ⟨z,z,z,z,z,z,z,trivial⟩,H⟩
  rintro kk t w ⟨x5,t4,hk3,E,rfl,H⟩
  obtain⟨k4,rfl⟩|rfl:=ks kk
  rotate_left
  ·cases E
  rw[ck.l1]at E
  refine ae (ae (cd (ds:=[]) bZ H z z ?_))
  have H:=H.drew
  refine wm 0 z H (ii x1) (wm 1 z H (ii x5) (wg 2 z H (gS z z) (wm 3 z H (.bool (decide (x1≤x5))) ?_)))
  rcases bR (decide (x1≤x5))with c3|c3
  ·have E:=iT c3 E
   refine wn 4 z z z c3 H (fun w H=>mv v0_ z) (wn 5 z z z c3 H (fun w H=>mv (ii x5) z) ?_)
   obtain⟨⟨g20,g21⟩,E⟩:=ar E
   refine wn 6 z z z c3 H (fun w H=>bo aN (ao (H.Gt 0 z)) z z g20 g21) (wn 7 z z z c3 H (fun w H=>bq bC (ao (H.Gt 0 z)) g20 g21 z) (wn 8 z z z c3 H (fun w H=>mv v0_ z) (wn 9 z z z c3 H (fun w H=>mv (ii a1) z) ?_)))
   obtain⟨⟨g22,g23⟩,E⟩:=ar E
   refine wn 10 z z z c3 H (fun w H=>bo aN (ao (H.Gt 0 z)) z z g22 g23) (wn 11 z z z c3 H (fun w H=>bq bC (ao (H.Gt 0 z)) g22 g23 z) ?_)
   obtain⟨x6,E2,E⟩:=ay E
   refine wp 12 z z z c3 (au kN z ((eI.calls E2).mono ?_))
   rintro _ w ⟨rfl,K⟩
   have H:=H.app K
   refine⟨_,z,⟨fun _=>H.ag [0] z z,wn 13 z z z c3 (H.ag [0] z z) (fun w H=>cp z) (wg 14 z (H.ag [0] z z) (pT (.bool (!x6)) z z c3) (wd (ab ?_)))⟩⟩
   refine aE E z (fun c4 E=>?_) (fun c4 E=>?_)
   ·refine aA (ab (aG (aH (vm (ii x5) (vr (bV z z) (va (ii (i64.wrap (x5-1))) (aK (aR ?_))))))))
    exact⟨k4,bL _,_,_,bK hk3,E,aD ⟨z,z,z,z,z,z,z,trivial⟩,H⟩
   ·refine bt (aM (aM (bu ?_)))
    exact⟨k4,_,_,by omega,E,aD ⟨z,z,z,z,z,z,z,trivial⟩,H⟩
  ·have E:=iF c3 E
   refine wf 4 z z z c3 H (wf 5 z z z c3 H (wf 6 z z z c3 H (wf 7 z z z c3 H (wf 8 z z z c3 H (wf 9 z z z c3 H (wf 10 z z z c3 H (wf 11 z z z c3 H (wf 12 z z z c3 H (wf 13 z z z c3 H (wg 14 z H (pF (.bool false) z z c3) (wd (ab (bS z (bt (aM (aM (bu ?_)))))))))))))))))
   exact⟨k4,_,_,by omega,E,aD ⟨z,z,z,z,z,z,z,trivial⟩,H⟩
 rintro t w ⟨k3,x4,t3,hk4,E,rfl,H⟩
 unfold ck.j1 at E
 refine ae (rg (vm (ii x1) (vm (ii x4) (vr (dy z z) (nl ?_)))))
 refine aE E z (fun c5 E=>?_) (fun c5 E=>?_)
 ·refine ae (eZ (ds:=[15]) (fun w=>∃l':List Int,l'.length=((l0_.set a1.toNat (at_ 0 l0_ a3)).set a3.toNat (at_ 0 l0_ a1)).length∧St (Rs.own (.int .u8) 5 v0_ l0_).fp w0 w [.own (.int .u8) 5 v0_ l']) bZ H z z ?_)
  have H:=H.drew
  refine wm 0 z ⟨_,by simp,H⟩ v0_ (wm 1 z ⟨_,by simp,H⟩ (ii x4) (wm 2 z ⟨_,by simp,H⟩ v0_ (wm 3 z ⟨_,by simp,H⟩ (ii a1) (wm 4 z ⟨_,by simp,H⟩ v0_ (wm 5 z ⟨_,by simp,H⟩ (ii a1) ?_)))))
  obtain⟨⟨g24,g25⟩,E⟩:=ar E
  refine wz 6 z ⟨_,by simp,H⟩ (fun w ⟨l',e',H⟩=>ey e' aN (ao (H.Gt 0 z)) z z g24 (by simpa using g25)) (wm 8 z ⟨_,by simp,H⟩ v0_ (wm 9 z ⟨_,by simp,H⟩ (ii x4) ?_))
  obtain⟨⟨g26,g27⟩,E⟩:=ar E
  refine wz 10 z ⟨_,by simp,H⟩ (fun w ⟨l',e',H⟩=>ey e' aN (ao (H.Gt 0 z)) z z g26 (by simpa using g27)) (qn (i:=7) (j:=11) (li:=tf 11 16) (lj:=#[true,true,true,true,true,true,true,false,true,true,true,true,false,false,false,false]) (l':=tf 12 16) z z z z z z z z z (by kernel_rfl) (by kernel_rfl) (by kernel_rfl) ⟨_,by simp,H⟩ (bq bC (ao (H.Gt 0 z)) g24 g25 z) (bq bC (ao (H.Gt 0 z)) g24 g25 z) (bq bC (ao (H.Gt 0 z)) g26 g27 z) (bq bC (ao (H.Gt 0 z)) g26 g27 z) ?_)
  obtain⟨⟨g28,g29⟩,E⟩:=ar E
  refine wz 12 z ⟨_,by simp,H⟩ (fun w ⟨l',e',H⟩=>ey e' aN (ao (H.Gt 0 z)) z z g28 (by simpa using g29)) (wo 13 z (dc dB H 0 z g28 g29 z z (fun w H=>⟨fun _=>⟨_,by simp,H.ag [0] z z⟩,?_⟩)))
  obtain⟨⟨g30,g31⟩,E⟩:=ar E
  refine wz 14 z ⟨_,by simp,H.ag [0] z z⟩ (fun w ⟨l',e',H⟩=>ey e' aN (ao (H.Gt 0 z)) z z g30 (by simpa using g31)) (wo 15 z (dc dB H 0 z g30 g31 z z (fun w H=>⟨fun h=>(h (by decide)).elim,wd (ab (rg (vm (ii x4) (va (ii x4) (va (.bool true) (nl (aj ?_)))))))⟩)))
  cases E
  exact(aL ⟨.inl z,_,tk0 z ⟨aB z (ad (ad ai)),z,H.bA 0 z⟩⟩)
 ·refine aA (ab (ae (eZ (ds:=[15]) (fun w=>∃l':List Int,l'.length=((l0_.set a1.toNat (at_ 0 l0_ a3)).set a3.toNat (at_ 0 l0_ a1)).length∧St (Rs.own (.int .u8) 5 v0_ l0_).fp w0 w [.own (.int .u8) 5 v0_ l']) bZ H z z ?_)))
  have H:=H.drew
  refine wm 0 z ⟨_,by simp,H⟩ v0_ (wm 1 z ⟨_,by simp,H⟩ (ii x1) (wm 2 z ⟨_,by simp,H⟩ v0_ (wm 3 z ⟨_,by simp,H⟩ (ii x4) (wm 4 z ⟨_,by simp,H⟩ v0_ (wm 5 z ⟨_,by simp,H⟩ (ii x4) ?_)))))
  obtain⟨⟨g32,g33⟩,E⟩:=ar E
  refine wz 6 z ⟨_,by simp,H⟩ (fun w ⟨l',e',H⟩=>ey e' aN (ao (H.Gt 0 z)) z z g32 (by simpa using g33)) (wm 8 z ⟨_,by simp,H⟩ v0_ (wm 9 z ⟨_,by simp,H⟩ (ii x1) ?_))
  obtain⟨⟨g34,g35⟩,E⟩:=ar E
  refine wz 10 z ⟨_,by simp,H⟩ (fun w ⟨l',e',H⟩=>ey e' aN (ao (H.Gt 0 z)) z z g34 (by simpa using g35)) (qn (i:=7) (j:=11) (li:=tf 11 16) (lj:=#[true,true,true,true,true,true,true,false,true,true,true,true,false,false,false,false]) (l':=tf 12 16) z z z z z z z z z (by kernel_rfl) (by kernel_rfl) (by kernel_rfl) ⟨_,by simp,H⟩ (bq bC (ao (H.Gt 0 z)) g32 g33 z) (bq bC (ao (H.Gt 0 z)) g32 g33 z) (bq bC (ao (H.Gt 0 z)) g34 g35 z) (bq bC (ao (H.Gt 0 z)) g34 g35 z) ?_)
  obtain⟨⟨g36,g37⟩,E⟩:=ar E
  refine wz 12 z ⟨_,by simp,H⟩ (fun w ⟨l',e',H⟩=>ey e' aN (ao (H.Gt 0 z)) z z g36 (by simpa using g37)) (wo 13 z (dc dB H 0 z g36 g37 z z (fun w H=>⟨fun _=>⟨_,by simp,H.ag [0] z z⟩,?_⟩)))
  obtain⟨⟨g38,g39⟩,E⟩:=ar E
  refine wz 14 z ⟨_,by simp,H.ag [0] z z⟩ (fun w ⟨l',e',H⟩=>ey e' aN (ao (H.Gt 0 z)) z z g38 (by simpa using g39)) (wo 15 z (dc dB H 0 z g38 g39 z z (fun w H=>⟨fun h=>(h (by decide)).elim,wd (ab (rg (vm (ii x1) (vr (aO z z) (va (ii (i64.wrap (x1+1))) (nl (rg (vm (ii x4) (vr (bV z z) (va (ii (i64.wrap (x4-1))) (nl ?_)))))))))))⟩)))
  refine cA (fun t w=>∃(k5:Nat)(l1:List Int)(x7:Int)(t5:Fr),k5≤k3∧ck.j2 k5 a1 l1 x7=some r∧t=aU t5 [(0,v0_),(1,ii a1),(8,ii 0),(9,.bool false),(11,ii x7),(1000000,undef)]∧St (Rs.own (.int .u8) 5 v0_ l0_).fp w0 w [.own (.int .u8) 5 v0_ l1]) ?_ ?_
  ·refine aG ?_
   refine bx (fun kk t w=>∃(l2:List Int)(x8 x9:Int)(t6:Fr),kk≤k3∧ck.l2 kk a1 l2 x8 x9=some r∧t=aU t6 [(0,v0_),(1,ii a1),(8,ii 0),(9,.bool false),(10,ii x8),(11,ii x9),(1000000,undef)]∧St (Rs.own (.int .u8) 5 v0_ l0_).fp w0 w [.own (.int .u8) 5 v0_ l2]) k3 ?_ ?_
   ·exact⟨_,_,_,_,aI _,E,aD ⟨z,z,z,z,z,z,z,trivial⟩,H⟩
   rintro kk t w ⟨l2,x8,x9,t6,hk5,E,rfl,H⟩
   obtain⟨k6,rfl⟩|rfl:=ks kk
   rotate_left
   ·cases E
   rw[ck.l2]at E
   refine aG ?_
   refine cA (fun t w=>∃(k7:Nat)(x10:Int)(t7:Fr),k7≤k6∧ck.j3 (ck.l4 k7) k7 a1 l2 x9 x10=some r∧t=aU t7 [(0,v0_),(1,ii a1),(8,ii 0),(9,.bool false),(10,ii x10),(11,ii x9),(1000000,undef)]∧St (Rs.own (.int .u8) 5 v0_ l0_).fp w0 w [.own (.int .u8) 5 v0_ l2]) ?_ ?_
   ·refine aG ?_
    refine bx (fun kk t w=>∃(x11:Int)(t8:Fr),kk≤k6∧ck.l3 kk a1 l2 x9 x11=some r∧t=aU t8 [(0,v0_),(1,ii a1),(8,ii 0),(9,.bool false),(10,ii x11),(11,ii x9),(1000000,undef)]∧St (Rs.own (.int .u8) 5 v0_ l0_).fp w0 w [.own (.int .u8) 5 v0_ l2]) k6 ?_ ?_
    ·exact⟨_,_,aI _,E,aD ⟨z,z,z,z,z,z,z,trivial⟩,H⟩
    rintro kk t w ⟨x11,t8,hk6,E,rfl,H⟩
    obtain⟨k8,rfl⟩|rfl:=ks kk
    rotate_left
    ·cases E
    rw[ck.l3]at E
    refine ae (ae (cd (ds:=[]) bZ H z z ?_))
    have H:=H.drew
    refine wm 0 z H (ii x11) (wm 1 z H (ii x9) (wg 2 z H (gS z z) (wm 3 z H (.bool (decide (x11≤x9))) ?_)))
    rcases bR (decide (x11≤x9))with c6|c6
    ·have E:=iT c6 E
     refine wn 4 z z z c6 H (fun w H=>mv v0_ z) (wn 5 z z z c6 H (fun w H=>mv (ii x11) z) ?_)
     obtain⟨⟨g40,g41⟩,E⟩:=ar E
     refine wn 6 z z z c6 H (fun w H=>bo aN (ao (H.Gt 0 z)) z z g40 g41) (wn 7 z z z c6 H (fun w H=>bq bC (ao (H.Gt 0 z)) g40 g41 z) (wn 8 z z z c6 H (fun w H=>mv v0_ z) (wn 9 z z z c6 H (fun w H=>mv (ii a1) z) ?_)))
     obtain⟨⟨g42,g43⟩,E⟩:=ar E
     refine wn 10 z z z c6 H (fun w H=>bo aN (ao (H.Gt 0 z)) z z g42 g43) (wn 11 z z z c6 H (fun w H=>bq bC (ao (H.Gt 0 z)) g42 g43 z) ?_)
     obtain⟨x12,E3,E⟩:=ay E
     refine wp 12 z z z c6 (au kN z ((eI.calls E3).mono ?_))
     rintro _ w ⟨rfl,K⟩
     have H:=H.app K
     refine⟨_,z,⟨fun _=>H.ag [0] z z,wg 13 z (H.ag [0] z z) (pT (.bool x12) z z c6) (wd (ab ?_))⟩⟩
     refine aE E z (fun c7 E=>?_) (fun c7 E=>?_)
     ·refine aA (ab (aG (aH (vm (ii x11) (vr (aO z z) (va (ii (i64.wrap (x11+1))) (aK (aR ?_))))))))
      exact⟨k8,bL _,_,_,bK hk6,E,aD ⟨z,z,z,z,z,z,z,trivial⟩,H⟩
     ·refine bt (aM (aM (bu ?_)))
      exact⟨k8,_,_,by omega,E,aD ⟨z,z,z,z,z,z,z,trivial⟩,H⟩
    ·have E:=iF c6 E
     refine wf 4 z z z c6 H (wf 5 z z z c6 H (wf 6 z z z c6 H (wf 7 z z z c6 H (wf 8 z z z c6 H (wf 9 z z z c6 H (wf 10 z z z c6 H (wf 11 z z z c6 H (wf 12 z z z c6 H (wg 13 z H (pF (.bool false) z z c6) (wd (ab (bS z (bt (aM (aM (bu ?_))))))))))))))))
     exact⟨k8,_,_,by omega,E,aD ⟨z,z,z,z,z,z,z,trivial⟩,H⟩
   rintro t w ⟨k7,x10,t7,hk7,E,rfl,H⟩
   unfold ck.j3 at E
   refine cA (fun t w=>∃(k9:Nat)(x13:Int)(t9:Fr),k9≤k7∧ck.j4 (ck.l2 k9) k9 a1 l2 x10 x13=some r∧t=aU t9 [(0,v0_),(1,ii a1),(8,ii 0),(9,.bool false),(10,ii x10),(11,ii x13),(1000000,undef)]∧St (Rs.own (.int .u8) 5 v0_ l0_).fp w0 w [.own (.int .u8) 5 v0_ l2]) ?_ ?_
   ·refine aG ?_
    refine bx (fun kk t w=>∃(x14:Int)(t10:Fr),kk≤k7∧ck.l4 kk a1 l2 x10 x14=some r∧t=aU t10 [(0,v0_),(1,ii a1),(8,ii 0),(9,.bool false),(10,ii x10),(11,ii x14),(1000000,undef)]∧St (Rs.own (.int .u8) 5 v0_ l0_).fp w0 w [.own (.int .u8) 5 v0_ l2]) k7 ?_ ?_
    ·exact⟨_,_,aI _,E,aD ⟨z,z,z,z,z,z,z,trivial⟩,H⟩
    rintro kk t w ⟨x14,t10,hk8,E,rfl,H⟩
    obtain⟨k10,rfl⟩|rfl:=ks kk
    rotate_left
    ·cases E
    rw[ck.l4]at E
    refine ae (ae (cd (ds:=[]) bZ H z z ?_))
    have H:=H.drew
    refine wm 0 z H (ii x10) (wm 1 z H (ii x14) (wg 2 z H (gS z z) (wm 3 z H (.bool (decide (x10≤x14))) ?_)))
    rcases bR (decide (x10≤x14))with c8|c8
    ·have E:=iT c8 E
     refine wn 4 z z z c8 H (fun w H=>mv v0_ z) (wn 5 z z z c8 H (fun w H=>mv (ii x14) z) ?_)
     obtain⟨⟨g44,g45⟩,E⟩:=ar E
     refine wn 6 z z z c8 H (fun w H=>bo aN (ao (H.Gt 0 z)) z z g44 g45) (wn 7 z z z c8 H (fun w H=>bq bC (ao (H.Gt 0 z)) g44 g45 z) (wn 8 z z z c8 H (fun w H=>mv v0_ z) (wn 9 z z z c8 H (fun w H=>mv (ii a1) z) ?_)))
     obtain⟨⟨g46,g47⟩,E⟩:=ar E
     refine wn 10 z z z c8 H (fun w H=>bo aN (ao (H.Gt 0 z)) z z g46 g47) (wn 11 z z z c8 H (fun w H=>bq bC (ao (H.Gt 0 z)) g46 g47 z) ?_)
     obtain⟨x15,E4,E⟩:=ay E
     refine wp 12 z z z c8 (au kN z ((eI.calls E4).mono ?_))
     rintro _ w ⟨rfl,K⟩
     have H:=H.app K
     refine⟨_,z,⟨fun _=>H.ag [0] z z,wn 13 z z z c8 (H.ag [0] z z) (fun w H=>cp z) (wg 14 z (H.ag [0] z z) (pT (.bool (!x15)) z z c8) (wd (ab ?_)))⟩⟩
     refine aE E z (fun c9 E=>?_) (fun c9 E=>?_)
     ·refine aA (ab (aG (aH (vm (ii x14) (vr (bV z z) (va (ii (i64.wrap (x14-1))) (aK (aR ?_))))))))
      exact⟨k10,bL _,_,_,bK hk8,E,aD ⟨z,z,z,z,z,z,z,trivial⟩,H⟩
     ·refine bt (aM (aM (bu ?_)))
      exact⟨k10,_,_,by omega,E,aD ⟨z,z,z,z,z,z,z,trivial⟩,H⟩
    ·have E:=iF c8 E
     refine wf 4 z z z c8 H (wf 5 z z z c8 H (wf 6 z z z c8 H (wf 7 z z z c8 H (wf 8 z z z c8 H (wf 9 z z z c8 H (wf 10 z z z c8 H (wf 11 z z z c8 H (wf 12 z z z c8 H (wf 13 z z z c8 H (wg 14 z H (pF (.bool false) z z c8) (wd (ab (bS z (bt (aM (aM (bu ?_)))))))))))))))))
     exact⟨k10,_,_,by omega,E,aD ⟨z,z,z,z,z,z,z,trivial⟩,H⟩
   rintro t w ⟨k9,x13,t9,hk9,E,rfl,H⟩
   unfold ck.j4 at E
   refine ae (rg (vm (ii x10) (vm (ii x13) (vr (dy z z) (nl ?_)))))
   refine aE E z (fun c10 E=>?_) (fun c10 E=>?_)
   ·refine bt (aM (qs z (aM (bu ?_))))
    exact⟨k9,_,_,_,by omega,E,aD ⟨z,z,z,z,z,z,trivial⟩,H⟩
   ·refine aA (ab (ae (eZ (ds:=[15]) (fun w=>∃l':List Int,l'.length=l2.length∧St (Rs.own (.int .u8) 5 v0_ l0_).fp w0 w [.own (.int .u8) 5 v0_ l']) bZ H z z ?_)))
    have H:=H.drew
    refine wm 0 z ⟨_,by simp,H⟩ v0_ (wm 1 z ⟨_,by simp,H⟩ (ii x10) (wm 2 z ⟨_,by simp,H⟩ v0_ (wm 3 z ⟨_,by simp,H⟩ (ii x13) (wm 4 z ⟨_,by simp,H⟩ v0_ (wm 5 z ⟨_,by simp,H⟩ (ii x13) ?_)))))
    obtain⟨⟨g48,g49⟩,E⟩:=ar E
    refine wz 6 z ⟨_,by simp,H⟩ (fun w ⟨l',e',H⟩=>ey e' aN (ao (H.Gt 0 z)) z z g48 (by simpa using g49)) (wm 8 z ⟨_,by simp,H⟩ v0_ (wm 9 z ⟨_,by simp,H⟩ (ii x10) ?_))
    obtain⟨⟨g50,g51⟩,E⟩:=ar E
    refine wz 10 z ⟨_,by simp,H⟩ (fun w ⟨l',e',H⟩=>ey e' aN (ao (H.Gt 0 z)) z z g50 (by simpa using g51)) (qn (i:=7) (j:=11) (li:=tf 11 16) (lj:=#[true,true,true,true,true,true,true,false,true,true,true,true,false,false,false,false]) (l':=tf 12 16) z z z z z z z z z (by kernel_rfl) (by kernel_rfl) (by kernel_rfl) ⟨_,by simp,H⟩ (bq bC (ao (H.Gt 0 z)) g48 g49 z) (bq bC (ao (H.Gt 0 z)) g48 g49 z) (bq bC (ao (H.Gt 0 z)) g50 g51 z) (bq bC (ao (H.Gt 0 z)) g50 g51 z) ?_)
    obtain⟨⟨g52,g53⟩,E⟩:=ar E
    refine wz 12 z ⟨_,by simp,H⟩ (fun w ⟨l',e',H⟩=>ey e' aN (ao (H.Gt 0 z)) z z g52 (by simpa using g53)) (wo 13 z (dc dB H 0 z g52 g53 z z (fun w H=>⟨fun _=>⟨_,by simp,H.ag [0] z z⟩,?_⟩)))
    obtain⟨⟨g54,g55⟩,E⟩:=ar E
    refine wz 14 z ⟨_,by simp,H.ag [0] z z⟩ (fun w ⟨l',e',H⟩=>ey e' aN (ao (H.Gt 0 z)) z z g54 (by simpa using g55)) (wo 15 z (dc dB H 0 z g54 g55 z z (fun w H=>⟨fun h=>(h (by decide)).elim,wd (ab (rg (vm (ii x10) (vr (aO z z) (va (ii (i64.wrap (x10+1))) (nl (aH (vm (ii x13) (vr (bV z z) (va (ii (i64.wrap (x13-1))) (aK (aR ?_))))))))))))⟩)))
    exact⟨k9,by omega,_,_,_,_,by omega,E,aD ⟨z,z,z,z,z,z,z,trivial⟩,H⟩
  rintro t w ⟨k5,l1,x7,t5,hk10,E,rfl,H⟩
  unfold ck.j2 at E
  refine ae (eZ (ds:=[15]) (fun w=>∃l':List Int,l'.length=l1.length∧St (Rs.own (.int .u8) 5 v0_ l0_).fp w0 w [.own (.int .u8) 5 v0_ l']) bZ H z z ?_)
  have H:=H.drew
  refine wm 0 z ⟨_,by simp,H⟩ v0_ (wm 1 z ⟨_,by simp,H⟩ (ii x7) (wm 2 z ⟨_,by simp,H⟩ v0_ (wm 3 z ⟨_,by simp,H⟩ (ii a1) (wm 4 z ⟨_,by simp,H⟩ v0_ (wm 5 z ⟨_,by simp,H⟩ (ii a1) ?_)))))
  obtain⟨⟨g56,g57⟩,E⟩:=ar E
  refine wz 6 z ⟨_,by simp,H⟩ (fun w ⟨l',e',H⟩=>ey e' aN (ao (H.Gt 0 z)) z z g56 (by simpa using g57)) (wm 8 z ⟨_,by simp,H⟩ v0_ (wm 9 z ⟨_,by simp,H⟩ (ii x7) ?_))
  obtain⟨⟨g58,g59⟩,E⟩:=ar E
  refine wz 10 z ⟨_,by simp,H⟩ (fun w ⟨l',e',H⟩=>ey e' aN (ao (H.Gt 0 z)) z z g58 (by simpa using g59)) (qn (i:=7) (j:=11) (li:=tf 11 16) (lj:=#[true,true,true,true,true,true,true,false,true,true,true,true,false,false,false,false]) (l':=tf 12 16) z z z z z z z z z (by kernel_rfl) (by kernel_rfl) (by kernel_rfl) ⟨_,by simp,H⟩ (bq bC (ao (H.Gt 0 z)) g56 g57 z) (bq bC (ao (H.Gt 0 z)) g56 g57 z) (bq bC (ao (H.Gt 0 z)) g58 g59 z) (bq bC (ao (H.Gt 0 z)) g58 g59 z) ?_)
  obtain⟨⟨g60,g61⟩,E⟩:=ar E
  refine wz 12 z ⟨_,by simp,H⟩ (fun w ⟨l',e',H⟩=>ey e' aN (ao (H.Gt 0 z)) z z g60 (by simpa using g61)) (wo 13 z (dc dB H 0 z g60 g61 z z (fun w H=>⟨fun _=>⟨_,by simp,H.ag [0] z z⟩,?_⟩)))
  obtain⟨⟨g62,g63⟩,E⟩:=ar E
  refine wz 14 z ⟨_,by simp,H.ag [0] z z⟩ (fun w ⟨l',e',H⟩=>ey e' aN (ao (H.Gt 0 z)) z z g62 (by simpa using g63)) (wo 15 z (dc dB H 0 z g62 g63 z z (fun w H=>⟨fun h=>(h (by decide)).elim,wd (ab (rg (vm (ii x7) (va (ii x7) (va (.bool false) (nl (aj ?_)))))))⟩)))
  cases E
  exact⟨.inl z,_,tk0 z ⟨aB z (ad (ad ai)),z,H.bA 0 z⟩⟩
def bW.j2(l1r l2r:Int→Int→Int→((Int×Bool)×List Int)→Option ((Unit)×List Int))(k:Nat)(a3 x1 x2:Int)(x3:Int×Int)(l1:List Int)(x4:Bool):Option ((Unit)×List Int):=bif x4 then(none)else((ck.f k l1 x1 x2 x3.1).bind fun x5=>bif decide (i64.wrap (x5.1.1-x1)<i64.wrap (x2-x5.1.1))then(l1r a3 x1 x2 x5)else(l2r a3 x1 x2 x5))
def bW.j0(l1r l2r:Int→Int→Int→((Int×Bool)×List Int)→Option ((Unit)×List Int))(k:Nat)(a3 x1 x2:Int)(x3:Int×Int)(l1:List Int):Option ((Unit)×List Int):=bif decide (0<x1)then(an (decide ((0:Int)≤i64.wrap (x1-1)∧i64.wrap (x1-1)<(l1.length:Int))) (an (decide ((0:Int)≤x3.1∧x3.1<(l1.length:Int))) ((eI.f (at_ 0 l1 (i64.wrap (x1-1))) (at_ 0 l1 x3.1)).bind fun x4=>bW.j2 l1r l2r k a3 x1 x2 x3 l1 (!x4))))else(bW.j2 l1r l2r k a3 x1 x2 x3 l1 false)
def bW.j1(l1r l2r:Int→Int→Int→((Int×Bool)×List Int)→Option ((Unit)×List Int))(k:Nat)(a3:Int)(l1:List Int)(x1 x2:Int)(x3:Int×Int)(x4:Bool):Option ((Unit)×List Int):=bif x4 then((fI.f k l1 x1 x2).bind fun x5=>bif x5.1 then(some ((),x5.2))else(bW.j0 l1r l2r k a3 x1 x2 x3 x5.2))else(bW.j0 l1r l2r k a3 x1 x2 x3 l1)
mutual
def bW.l0:Nat→Int→List (Int)→Int→Int→Bool→Bool→Option ((Unit)×List Int)
 |0,_,_,_,_,_,_=>none
 |k+1,a3,l1,x1,x2,x3,x4=>bif decide (i64.wrap (x2-x1)≤12)then((fA.f k l1 x1 x2).bind fun x5=>some ((),x5.2))else(bif decide (a3=0)then(none)else(bif !x3 then(none)else((dY.f l1 x1 x2).bind fun x6=>bif decide (x6.2=2)then(none)else(bif x3 then(bif x4 then(bW.j1 (bW.l1 k) (bW.l2 k) k a3 l1 x1 x2 x6 (decide (x6.2=1)))else(bW.j1 (bW.l1 k) (bW.l2 k) k a3 l1 x1 x2 x6 false))else(bW.j1 (bW.l1 k) (bW.l2 k) k a3 l1 x1 x2 x6 false)))))
def bW.l1:Nat→Int→Int→Int→((Int×Bool)×List Int)→Option ((Unit)×List Int)
 |0,_,_,_,_=>none
 |k+1,a3,x1,x2,x7=>bif decide (i64.wrap (x7.1.1-x1)≤12)then((fA.f k x7.2 x1 x7.1.1).bind fun x8=>bW.l0 k a3 x8.2 (i64.wrap (x7.1.1+1)) x2 (decide (i64.wrap (Int.tdiv (i64.wrap (x2-x1)) 8)≤i64.wrap (x7.1.1-x1))) x7.1.2)else(none)
def bW.l2:Nat→Int→Int→Int→((Int×Bool)×List Int)→Option ((Unit)×List Int)
 |0,_,_,_,_=>none
 |k+1,a3,x1,x2,x7=>bif decide (i64.wrap (x2-(i64.wrap (x7.1.1+1)))≤12)then((fA.f k x7.2 (i64.wrap (x7.1.1+1)) x2).bind fun x9=>bW.l0 k a3 x9.2 x1 x7.1.1 (decide (i64.wrap (Int.tdiv (i64.wrap (x2-x1)) 8)≤i64.wrap (x2-x7.1.1))) x7.1.2)else(none)
end
def bW.f(k:Nat)(l0_:List Int)(a1 a2 a3:Int):Option ((Unit)×List Int):=bW.l0 k a3 l0_ a1 a2 true true
theorem bW.calls{w0:World}{k:Nat}{v0_:Value}{l0_:List Int}{a1 a2 a3:Int}{r:(Unit)×List Int}(hf:(Rs.own (.int .u8) 5 v0_ l0_).inv w0)(E:bW.f k l0_ a1 a2 a3=some r):
 Calls aa 346 #[v0_,ii a1,ii a2,ii a3] w0 fun e w'=>e= .returned (.tuple #[])∧St (Rs.own (.int .u8) 5 v0_ l0_).fp w0 w' [.own (.int .u8) 5 v0_ r.2]:=by
 have H:=St.start hf
 unfold bW.f at E
 refine aP (N:=134) (args:=[v0_,ii a1,ii a2,ii a3]) Tryz.func346 z z (by simp) ?_
 refine rg (va (.bool true) (nl (rg (va (.bool true) (nl (aG ?_))))))
 refine bx (fun kk t w=>∃(l1:List Int)(x1 x2:Int)(x3 x4:Bool)(t1:Fr),kk≤k∧bW.l0 kk a3 l1 x1 x2 x3 x4=some r∧t=aU t1 [(0,v0_),(1,ii x1),(2,ii x2),(3,ii a3),(8,.bool x3),(9,.bool x4),(1000000,undef)]∧St (Rs.own (.int .u8) 5 v0_ l0_).fp w0 w [.own (.int .u8) 5 v0_ l1]) k ?_ ?_
 ·exact⟨_,_,_,_,_,_,aI _,E,aD ⟨z,z,z,z,z,z,z,trivial⟩,H⟩
 rintro kk t w ⟨l1,x1,x2,x3,x4,t1,hk1,E,rfl,H⟩
 obtain⟨k1,rfl⟩|rfl:=ks kk
 rotate_left
 ·cases E
 rw[bW.l0]at E
 refine aG (rg (vm (ii x2) (vm (ii x1) (vr (bV z z) (va (ii (i64.wrap (x2-x1))) (nl (ae (rg (vm (ii (i64.wrap (x2-x1))) (vr (gS z z) (nl ?_)))))))))))
 refine aE E z (fun c1 E=>?_) (fun c1 E=>?_)
 ·refine rg (vm v0_ (vm (ii x1) (vm (ii x2) ?_)))
  obtain⟨x5,E1,E⟩:=ay E
  refine ye (au vt z ((fA.calls (H.Gt 0 z) E1).mono ?_))
  rintro _ w ⟨rfl,K⟩
  have H:=H.aV 0 z K
  refine⟨_,z,nl (aj ?_)⟩
  cases E
  exact(aL (bG (aL (bG ⟨.inl z,_,tk0 z ⟨aB z ai,z,H.bA 0 z⟩⟩))))
 ·refine aA (ab (ae (rg (vm (ii a3) (vr (cg z z) (nl ?_))))))
  refine aE E z (fun c2 E=>?_) (fun c2 E=>?_)
  ·cases E
  ·refine aA (ab (ae (rg (vm (.bool x3) (vr (cp z) (nl ?_))))))
   refine aE E z (fun c3 E=>?_) (fun c3 E=>?_)
   ·cases E
   ·refine aA (ab (rg (vm v0_ (vm (ii x1) (vm (ii x2) ?_)))))
    obtain⟨x6,E2,E⟩:=ay E
    refine ye (au HX z ((dY.calls (H.own 0 z (ao (H.Gt 0 z))) E2).mono ?_))
    rintro _ w ⟨rfl,K⟩
    have H:=H.app K
    refine⟨_,z,vr cz (vr (aX z z) (vr (aX z z) (va (ii x6.1) (va (ii x6.2) (nl (ae (rg (vm (ii x6.2) (vr (cg z z) (nl ?_))))))))))⟩
    refine aE E z (fun c4 E=>?_) (fun c4 E=>?_)
    ·cases E
    ·refine aA (ab ?_)
     refine cA (fun t w=>∃(k2:Nat)(l2:List Int)(t2:Fr),k2≤k1∧bW.j0 (bW.l1 k2) (bW.l2 k2) k2 a3 x1 x2 x6 l2=some r∧t=aU t2 [(0,v0_),(1,ii x1),(2,ii x2),(3,ii a3),(8,.bool x3),(9,.bool x4),(10,ii (i64.wrap (x2-x1))),(11,ii x6.1),(1000000,undef)]∧St (Rs.own (.int .u8) 5 v0_ l0_).fp w0 w [.own (.int .u8) 5 v0_ l2]) ?_ ?_
     ·refine cA (fun t w=>∃(k3:Nat)(x7:Bool)(t3:Fr),k3≤k1∧bW.j1 (bW.l1 k3) (bW.l2 k3) k3 a3 l1 x1 x2 x6 x7=some r∧t=aU t3 [(0,v0_),(1,ii x1),(2,ii x2),(3,ii a3),(8,.bool x3),(9,.bool x4),(10,ii (i64.wrap (x2-x1))),(11,ii x6.1),(68,.bool x7),(1000000,undef)]∧St (Rs.own (.int .u8) 5 v0_ l0_).fp w0 w [.own (.int .u8) 5 v0_ l1]) ?_ ?_
      ·refine aH (vm (.bool x3) (vm (.bool x3) ?_))
       rcases bR (x3)with c5|c5
       ·have E:=iT c5 E
        refine oo c5 z (mv (.bool x4) z) (vr (pT (.bool x4) z z c5) (vm (.bool x4) ?_))
        rcases bR (x4)with c6|c6
        ·have E:=iT c6 E
         refine oo c6 z (mv (ii x6.2) z) (oo c6 z (cg z z) (vr (pT (.bool (decide (x6.2=1))) z z c6) (aK ?_)))
         exact⟨k1,_,_,aI _,E,aD ⟨z,z,z,z,z,z,z,z,z,z,trivial⟩,H⟩
        ·have E:=iF c6 E
         refine ow c6 z (ow c6 z (vr (pF (.bool false) z z c6) (aK ?_)))
         exact⟨k1,_,_,aI _,E,aD ⟨z,z,z,z,z,z,z,z,z,z,trivial⟩,H⟩
       ·have E:=iF c5 E
        refine ow c5 z (vr (pF (.bool false) z z c5) (vm (.bool false) (ow z z (ow z z (vr (pF (.bool false) z z z) (aK ?_))))))
        exact⟨k1,_,_,aI _,E,aD ⟨z,z,z,z,z,z,z,z,z,z,trivial⟩,H⟩
      rintro t w ⟨k3,x7,t3,hk2,E,rfl,H⟩
      unfold bW.j1 at E
      refine aE E z (fun c7 E=>?_) (fun c7 E=>?_)
      ·refine rg (vm v0_ (vm (ii x1) (vm (ii x2) ?_)))
       obtain⟨x8,E3,E⟩:=ay E
       refine ye (au HY z ((fI.calls (H.Gt 0 z) E3).mono ?_))
       rintro _ w ⟨rfl,K⟩
       have H:=H.aV 0 z K
       refine⟨_,z,(nl ?_)⟩
       refine aE E z (fun c8 E=>?_) (fun c8 E=>?_)
       ·refine aj ?_
        cases E
        exact(aL (bG (aL (bG ⟨.inl z,_,tk0 z ⟨aB z ai,z,H.bA 0 z⟩⟩))))
       ·refine aA ?_
        exact⟨k3,_,_,by omega,E,aD ⟨z,z,z,z,z,z,z,z,z,trivial⟩,H⟩
      ·refine aA ?_
       exact⟨k3,_,_,by omega,E,aD ⟨z,z,z,z,z,z,z,z,z,trivial⟩,H⟩
     rintro t w ⟨k2,l2,t2,hk3,E,rfl,H⟩
     unfold bW.j0 at E
     refine ae ?_
     refine cA (fun t w=>∃(k4:Nat)(x9:Bool)(t4:Fr),k4≤k2∧bW.j2 (bW.l1 k4) (bW.l2 k4) k4 a3 x1 x2 x6 l2 x9=some r∧t=aU t4 [(0,v0_),(1,ii x1),(2,ii x2),(3,ii a3),(8,.bool x3),(9,.bool x4),(10,ii (i64.wrap (x2-x1))),(11,ii x6.1),(87,.bool x9),(1000000,undef)]∧St (Rs.own (.int .u8) 5 v0_ l0_).fp w0 w [.own (.int .u8) 5 v0_ l2]) ?_ ?_
     ·refine cd (ds:=[]) bZ H z z ?_
      have H:=H.drew
      refine wm 0 z H (ii x1) (wg 1 z H (dy z z) (wm 2 z H (.bool (decide (0<x1))) ?_))
      rcases bR (decide (0<x1))with c9|c9
      ·have E:=iT c9 E
       refine wn 3 z z z c9 H (fun w H=>mv v0_ z) (wn 4 z z z c9 H (fun w H=>mv (ii x1) z) (wn 5 z z z c9 H (fun w H=>bV z z) ?_))
       obtain⟨⟨g1,g2⟩,E⟩:=ar E
       refine wn 6 z z z c9 H (fun w H=>bo aN (ao (H.Gt 0 z)) z z g1 g2) (wn 7 z z z c9 H (fun w H=>bq bC (ao (H.Gt 0 z)) g1 g2 z) (wn 8 z z z c9 H (fun w H=>mv v0_ z) (wn 9 z z z c9 H (fun w H=>mv (ii x6.1) z) ?_)))
       obtain⟨⟨g3,g4⟩,E⟩:=ar E
       refine wn 10 z z z c9 H (fun w H=>bo aN (ao (H.Gt 0 z)) z z g3 g4) (wn 11 z z z c9 H (fun w H=>bq bC (ao (H.Gt 0 z)) g3 g4 z) ?_)
       obtain⟨x10,E4,E⟩:=ay E
       refine wp 12 z z z c9 (au kN z ((eI.calls E4).mono ?_))
       rintro _ w ⟨rfl,K⟩
       have H:=H.app K
       refine⟨_,z,⟨fun _=>H.ag [0] z z,wn 13 z z z c9 (H.ag [0] z z) (fun w H=>cp z) (wg 14 z (H.ag [0] z z) (pT (.bool (!x10)) z z c9) (wd ?_))⟩⟩
       exact⟨k2,_,_,aI _,E,aD ⟨z,z,z,z,z,z,z,z,z,z,trivial⟩,H⟩
      ·have E:=iF c9 E
       refine wf 3 z z z c9 H (wf 4 z z z c9 H (wf 5 z z z c9 H (wf 6 z z z c9 H (wf 7 z z z c9 H (wf 8 z z z c9 H (wf 9 z z z c9 H (wf 10 z z z c9 H (wf 11 z z z c9 H (wf 12 z z z c9 H (wf 13 z z z c9 H (wg 14 z H (pF (.bool false) z z c9) (wd ?_))))))))))))
       exact⟨k2,_,_,aI _,E,aD ⟨z,z,z,z,z,z,z,z,z,z,trivial⟩,H⟩
     rintro t w ⟨k4,x9,t4,hk4,E,rfl,H⟩
     unfold bW.j2 at E
     refine aE E z (fun c10 E=>?_) (fun c10 E=>?_)
     ·cases E
     ·refine aA (ab (rg (vm v0_ (vm (ii x1) (vm (ii x2) (vm (ii x6.1) ?_))))))
      obtain⟨x11,E5,E⟩:=ay E
      refine ye (au HZ z ((ck.calls (H.Gt 0 z) E5).mono ?_))
      rintro _ w ⟨rfl,K⟩
      have H:=H.aV 0 z K
      refine⟨_,z,vr cz (vr (aX z z) (vr (aX z z) (va (ii x11.1.1) (va (.bool x11.1.2) (nl (rg (vm (.bool x11.1.2) (va (.bool x11.1.2) (nl (rg (vm (ii x11.1.1) (vm (ii x1) (vr (bV z z) (vm (ii x2) (vm (ii x11.1.1) (vr (bV z z) (va (ii (i64.wrap (x11.1.1-x1))) (va (ii (i64.wrap (x2-x11.1.1))) (nl (rg (vm (ii (i64.wrap (x2-x1))) (vr (ie z z (by decide)) (va (ii (i64.wrap (Int.tdiv (i64.wrap (x2-x1)) 8))) (nl (rg (vm (ii (i64.wrap (x11.1.1-x1))) (vm (ii (i64.wrap (x2-x11.1.1))) (vr (aZ z z) (nl ?_)))))))))))))))))))))))))))))⟩
      refine aE E z (fun c11 E=>?_) (fun c11 E=>?_)
      ·refine rg (vm (ii (i64.wrap (x11.1.1-x1))) (vm (ii (i64.wrap (Int.tdiv (i64.wrap (x2-x1)) 8))) (vr (dq z z) (va (.bool (decide (i64.wrap (Int.tdiv (i64.wrap (x2-x1)) 8)≤i64.wrap (x11.1.1-x1)))) (nl (rg (vm v0_ (vm (ii x1) (vm (ii x11.1.1) (vm (ii a3) (ye (cm 134 [v0_,ii x1,ii x11.1.1,ii a3] vq Tryz.func346 z z z z (rg (va (.bool true) (nl (rg (va (.bool true) (nl (aG ?_)))))))))))))))))))
       refine bx (fun kk t w=>∃(t5:Fr),kk≤k4∧bW.l1 kk a3 x1 x2 x11=some r∧t=aU t5 [(0,v0_),(1,ii x1),(2,ii x11.1.1),(3,ii a3),(8,.bool true),(9,.bool true),(1000000,undef)]∧St (Rs.own (.int .u8) 5 v0_ l0_).fp w0 w [.own (.int .u8) 5 v0_ x11.2]) k4 ?_ ?_
       ·exact⟨_,aI _,E,aD ⟨z,z,z,z,z,z,z,trivial⟩,H⟩
       rintro kk t w ⟨t5,hk5,E,rfl,H⟩
       obtain⟨k5,rfl⟩|rfl:=ks kk
       rotate_left
       ·cases E
       rw[bW.l1]at E
       refine aG (rg (vm (ii x11.1.1) (vm (ii x1) (vr (bV z z) (va (ii (i64.wrap (x11.1.1-x1))) (nl (ae (rg (vm (ii (i64.wrap (x11.1.1-x1))) (vr (gS z z) (nl ?_)))))))))))
       refine aE E z (fun c12 E=>?_) (fun c12 E=>?_)
       ·refine rg (vm v0_ (vm (ii x1) (vm (ii x11.1.1) ?_)))
        obtain⟨x12,E6,E⟩:=ay E
        refine ye (au vt z ((fA.calls (H.Gt 0 z) E6).mono ?_))
        rintro _ w ⟨rfl,K⟩
        have H:=H.aV 0 z K
        refine⟨_,z,nl (aj (aL (bG (aL (bG ⟨.inl z,.tuple #[],tk0 z ⟨ba z ai z,nl (aH (vm (ii x11.1.1) (vr (aO z z) (va (ii (i64.wrap (x11.1.1+1))) (aK (aR ?_))))))⟩⟩)))))⟩
        exact⟨k5,by omega,_,_,_,_,_,_,by omega,E,aD ⟨z,z,z,z,z,z,z,trivial⟩,H⟩
       ·cases E
      ·refine rg (vm (ii (i64.wrap (x2-x11.1.1))) (vm (ii (i64.wrap (Int.tdiv (i64.wrap (x2-x1)) 8))) (vr (dq z z) (va (.bool (decide (i64.wrap (Int.tdiv (i64.wrap (x2-x1)) 8)≤i64.wrap (x2-x11.1.1)))) (nl (rg (vm v0_ (vm (ii x11.1.1) (vr (aO z z) (vm (ii x2) (vm (ii a3) (ye (cm 134 [v0_,ii (i64.wrap (x11.1.1+1)),ii x2,ii a3] vq Tryz.func346 z z z z (rg (va (.bool true) (nl (rg (va (.bool true) (nl (aG ?_))))))))))))))))))))
       refine bx (fun kk t w=>∃(t6:Fr),kk≤k4∧bW.l2 kk a3 x1 x2 x11=some r∧t=aU t6 [(0,v0_),(1,ii (i64.wrap (x11.1.1+1))),(2,ii x2),(3,ii a3),(8,.bool true),(9,.bool true),(1000000,undef)]∧St (Rs.own (.int .u8) 5 v0_ l0_).fp w0 w [.own (.int .u8) 5 v0_ x11.2]) k4 ?_ ?_
       ·exact⟨_,aI _,E,aD ⟨z,z,z,z,z,z,z,trivial⟩,H⟩
       rintro kk t w ⟨t6,hk6,E,rfl,H⟩
       obtain⟨k6,rfl⟩|rfl:=ks kk
       rotate_left
       ·cases E
       rw[bW.l2]at E
       refine aG (rg (vm (ii x2) (vm (ii (i64.wrap (x11.1.1+1))) (vr (bV z z) (va (ii (i64.wrap (x2-(i64.wrap (x11.1.1+1))))) (nl (ae (rg (vm (ii (i64.wrap (x2-(i64.wrap (x11.1.1+1))))) (vr (gS z z) (nl ?_)))))))))))
       refine aE E z (fun c13 E=>?_) (fun c13 E=>?_)
       ·refine rg (vm v0_ (vm (ii (i64.wrap (x11.1.1+1))) (vm (ii x2) ?_)))
        obtain⟨x13,E7,E⟩:=ay E
        refine ye (au vt z ((fA.calls (H.Gt 0 z) E7).mono ?_))
        rintro _ w ⟨rfl,K⟩
        have H:=H.aV 0 z K
        refine⟨_,z,nl (aj (aL (bG (aL (bG ⟨.inl z,.tuple #[],tk0 z ⟨ba z ai z,nl (aH (vm (ii x11.1.1) (va (ii x11.1.1) (aK (aR ?_)))))⟩⟩)))))⟩
        exact⟨k6,by omega,_,_,_,_,_,_,by omega,E,aD ⟨z,z,z,z,z,z,z,trivial⟩,H⟩
       ·cases E
def gD.l0:Nat→Int→Int→List (Int)→Int→Option (List Int)
 |0,_,_,_,_=>none
 |k+1,a1,a2,l1,x1=>bif decide (x1<((List.replicate a2.toNat (0:Int)).length:Int))then((jK.f a1 x1).bind fun x2=>an (decide ((0:Int)≤x1∧x1<(l1.length:Int))) (gD.l0 k a1 a2 (l1.set x1.toNat x2) (i64.wrap (x1+1))))else(some l1)
def gD.f(k:Nat)(a1 a2:Int):Option (List Int):=an (decide ((0:Int)≤a2∧a2≤a2∧a2≤140737488355328)) (gD.l0 k a1 a2 (List.replicate a2.toNat (0:Int)) 0)
theorem gD.calls{w0:World}{k:Nat}{F_:FD}{a1 a2:Int}{r:List Int}(hf:(Rs.ah F_).inv w0)(E:gD.f k a1 a2=some r):
 Calls aa 315 #[pt F_.p,iu a1,ii a2] w0 fun e w'=>∃(u0:Value),e= .returned (u0)∧St (Rs.ah F_).fp w0 w' [.ah F_,.own (.int .u8) 5 u0 r]:=by
 have H:=St.start hf
 unfold gD.f at E
 refine aP (N:=25) (args:=[pt F_.p,iu a1,ii a2]) Tryz.func315 z z (by simp) ?_
 refine rg (va sn (nl (rg (vm (ii a2) ?_))))
 obtain⟨⟨g2,g3,g4⟩,E⟩:=ar E
 refine ye (ee (e:=(.int .u8)) (z0:=0) aN z H z z g2 g3 (by omega) (by omega) (fun v1 w H=>va v1 (nl (ae (rg (vm v1 (vr (aY bI (ao (H.Gt 1 z)) z) (vm (ii 0) (nl (aG ?_))))))))))
 refine bx (fun kk t w=>∃(l1:List Int)(x1:Int)(t1:Fr),kk≤k∧gD.l0 kk a1 a2 l1 x1=some r∧t=aU t1 [(0,pt F_.p),(1,iu a1),(6,sn),(7,v1),(12,ii ((List.replicate a2.toNat (0:Int)).length:Int)),(13,ii x1),(1000000,undef)]∧St (Rs.ah F_).fp w0 w [.ah F_,.own (.int .u8) 5 v1 l1]) k ?_ ?_
 ·exact⟨_,_,_,aI _,E,aD ⟨z,z,z,z,z,z,z,trivial⟩,H⟩
 rintro kk t w ⟨l1,x1,t1,hk1,E,rfl,H⟩
 obtain⟨k19,rfl⟩|rfl:=ks kk
 rotate_left
 ·cases E
 rw[gD.l0]at E
 refine rg (vr (aZ z z) (nl (ae ?_)))
 refine aE E z (fun c1 E=>?_) (fun c1 E=>?_)
 ·refine aA (ab (ae (aG (rg (vm (ii x1) (va (ii x1) (nl (aH (vm v1 (vm (ii x1) (vm (pt F_.p) (vm (iu a1) (vm (ii x1) ?_)))))))))))))
  obtain⟨x2,E1,E⟩:=ay E
  refine ye (au vn z ((jK.calls (H.Gt 0 z) E1).mono ?_))
  rintro _ w ⟨rfl,K⟩
  have H:=H.aV 0 z K
  refine⟨_,z,?_⟩
  obtain⟨⟨g1,g5⟩,E⟩:=ar E
  refine vr (bo aN (ao (H.Gt 1 z)) z z g1 g5) (s_ (dc dB H 1 z g1 g5 z z (fun w H=>aK (aR (ab (aH (vr (aO z z) (vm (ii (i64.wrap (x1+1))) (aK ?_)))))))))
  exact⟨k19,bL _,_,_,_,bK hk1,E,aD ⟨z,z,z,z,z,z,z,trivial⟩,H⟩
 ·refine bt (aM (aM (bu (ab (rg (vm v1 (va v1 (nl (aj ?_)))))))))
  cases E
  exact⟨.inl z,_,tk0 z ⟨aB z (ad ai),_,z,H.bN 0 1 z z z⟩⟩
def db.j1(l1r:List (List Int)→List (Int)→Int→Option (List Int))(k:Nat)(a0:List (List Int))(l1:List Int):Option (List Int):=l1r a0 l1 0
def db.j0(l1r:List (List Int)→List (Int)→Int→Option (List Int))(k:Nat)(a0:List (List Int))(x1:Int):Option (List Int):=bif decide (x1<0)then(none)else(bif decide (0<i64.wrap (x1-0))then(an (decide ((0:Int)<i64.wrap (x1-0)∧1*i64.wrap (x1-0)≤140737488355328)) (an (decide ((0:Int)≤0∧0≤((List.replicate (i64.wrap (x1-0)).toNat (0:Int)).length:Int))) (db.j1 l1r k a0 ((List.replicate (i64.wrap (x1-0)).toNat (0:Int)).take ((0:Int).toNat)))))else(db.j1 l1r k a0 ([]:List Int)))
mutual
def db.l0:Nat→List (List Int)→Int→Int→Option (List Int)
 |0,_,_,_=>none
 |k+1,a0,x1,x2=>bif decide (x2<(a0.length:Int))then(an (decide ((0:Int)≤x2∧x2<(a0.length:Int))) (bif decide (i64.wrap (x1+((at_ [] a0 x2).length:Int))<0)then(none)else(db.l0 k a0 (i64.wrap (x1+((at_ [] a0 x2).length:Int))) (i64.wrap (x2+1)))))else(db.j0 (db.l1 k) k a0 x1)
def db.l1:Nat→List (List Int)→List (Int)→Int→Option (List Int)
 |0,_,_,_=>none
 |k+1,a0,l1,x3=>bif decide (x3<(a0.length:Int))then(an (decide ((0:Int)≤x3∧x3<(a0.length:Int))) (an (decide ((l1.length+(at_ [] a0 x3).length)*1≤140737488355328)) (db.l1 k a0 (l1++at_ [] a0 x3) (i64.wrap (x3+1)))))else(some l1)
end
def db.f(k:Nat)(a0:List (List Int)):Option (List Int):=db.l0 k a0 0 0
theorem db.calls{w0:World}{k:Nat}{a0:List (List Int)}{v0_:Value}{r:List Int}(h0:Rd (.sl (.of (.int .u8))) w0 (Ol no w0) v0_ a0)(E:db.f k a0=some r):
 Calls aa 347 #[v0_] w0 fun e w'=>∃(u0:Value),e= .returned (u0)∧St no w0 w' [.own (.int .u8) 5 u0 r]:=by
 have H:=St.nil no w0
 unfold db.f at E
 refine aP (N:=36) (args:=[v0_]) Tryz.func347 z z (by simp) ?_
 refine rg (va sn (nl (rg (va (ii 0) (nl ?_)))))
 refine cA (fun t w=>∃(k30:Nat)(x1:Int)(t1:Fr),k30≤k∧db.j0 (db.l1 k30) k30 a0 x1=some r∧t=aU t1 [(0,v0_),(2,sn),(3,ii x1),(1000000,undef)]∧St no w0 w []) ?_ ?_
 ·refine rg (vm v0_ (vr (aY nF (H.rd h0) z) (vm (ii 0) (nl (aG ?_)))))
  refine bx (fun kk t w=>∃(x2 x3:Int)(t2:Fr),kk≤k∧db.l0 kk a0 x2 x3=some r∧t=aU t2 [(0,v0_),(2,sn),(3,ii x2),(9,v0_),(10,ii (a0.length:Int)),(11,ii x3),(1000000,undef)]∧St no w0 w []) k ?_ ?_
  ·exact⟨_,_,_,aI _,E,aD ⟨z,z,z,z,z,z,z,trivial⟩,H⟩
  rintro kk t w ⟨x2,x3,t2,hk1,E,rfl,H⟩
  obtain⟨k1,rfl⟩|rfl:=ks kk
  rotate_left
  ·cases E
  rw[db.l0]at E
  refine rg (vr (aZ z z) (nl (ae ?_)))
  refine aE E z (fun c1 E=>?_) (fun c1 E=>?_)
  ·refine aA (ab (ae (aG (rg ?_))))
   obtain⟨⟨g1,g2⟩,E⟩:=ar E
   refine vr (bo ko (H.rd h0) z z g1 g2) (ye (uN bQ H h0 g1 g2 z (fun v1 h1=>va v1 (nl (rg (vm (ii x2) (vm v1 (vr (aY bI (H.rd h1) z) (vr (aO z z) (va (ii (i64.wrap (x2+((at_ [] a0 x3).length:Int)))) (nl (rg (vm (ii (i64.wrap (x2+((at_ [] a0 x3).length:Int)))) (vr (aZ z z) (nl ?_)))))))))))))))
   refine aE E z (fun c2 E=>?_) (fun c2 E=>?_)
   ·refine aH ?_
    cases E
   ·refine aA (aR (ab (aH (vr (aO z z) (vm (ii (i64.wrap (x3+1))) (aK ?_))))))
    exact⟨k1,bL _,_,_,_,bK hk1,E,aD ⟨z,z,z,z,z,z,z,trivial⟩,H⟩
  ·refine bt (aM (aM (bu ?_)))
   exact⟨k1,_,_,by omega,E,aD ⟨z,z,z,z,trivial⟩,H⟩
 rintro t w ⟨k30,x1,t1,hk2,E,rfl,H⟩
 unfold db.j0 at E
 refine rg (vm (ii x1) ?_)
 refine ye (fZ (fun v w=>∃(k2:Nat)(l1:List Int)(v2:Value),k2≤k30∧db.j1 (db.l1 k2) k2 a0 l1=some r∧v=v2∧St no w0 w [.own (.int .u8) 5 v2 l1]) ?_ ?_)
 ·refine(cm 27 [sn,ii x1] H0 Tryz.func370 z z z z (rg (va sn (nl (ae (rg (vm (ii x1) (vr (aZ z z) (nl ?_)))))))))
  refine aE E z (fun c3 E=>?_) (fun c3 E=>?_)
  ·refine aH ?_
   cases E
  ·refine aA (ab (ae (rg (vm (ii x1) (vm sn (vr (bJ (Cz bI z) (v':=ii 0) z) (vm sn (vr (bJ (lP bI z) (v':=ii 0) z) (vr (bJ (v':=ii 0) (bV z z) z) (vr (bV z z) (va (ii (i64.wrap (x1-0))) (nl (rg (vm (ii (i64.wrap (x1-0))) (vr (dy z z) (nl ?_))))))))))))))))
   refine aE E z (fun c4 E=>?_) (fun c4 E=>?_)
   ·refine aH (vm sn (vm sn (vr (bJ (Cz bI z) (v':=ii 0) z) (vr (bJ (CH aN z z (by decide) (by decide)) (v':=sn) z) (vm (ii (i64.wrap (x1-0))) ?_)))))
    obtain⟨⟨g3,g4⟩,E⟩:=ar E
    refine ye (QR (e:=(.int .u8)) (z0:=0) aN Tryz.underlying3 z H z z g3 (by omega) (fun v3 w H=>vm sn (vr (bJ (lP bI z) (v':=ii 0) z) ?_)))
    obtain⟨⟨g5,g6⟩,E⟩:=ar E
    have p1:0≤(0:Int).toNat:=by omega
    have p2:(0:Int).toNat≤(List.replicate (i64.wrap (x1-0)).toNat (0:Int)).length:=by omega
    refine vr (fU aN (ao (H.Gt 0 z)) z z g5 g6) (va (bz v3 0 ((0:Int).toNat) 1) (nl (rg (vm (bz v3 0 ((0:Int).toNat) 1) (va (bz v3 0 ((0:Int).toNat) 1) (nl (aj ?_)))))))
    have H:=H.DI 0 z p2
    exact⟨.inl z,bz v3 0 ((0:Int).toNat) 1,tk0 z ⟨ba z (ad ai) z,k30,_,_,aI _,E,z,H⟩⟩
   ·refine aA (ab (rg (vm sn (va sn (nl (aj ?_))))))
    have H:=H.bB (.int .u8) 5
    exact⟨.inl z,sn,tk0 z ⟨ba z (ad ai) z,k30,_,_,aI _,E,z,H⟩⟩
 rintro _ w ⟨k2,l1,v2,hk3,E,hv_,H⟩
 have hv_:=hv_.symm
 subst hv_
 unfold db.j1 at E
 refine va v2 (nl (ae (rg (vm v0_ (vr (aY nF (H.rd h0) z) (vm (ii 0) (nl (aG ?_))))))))
 refine bx (fun kk t w=>∃(l2:List Int)(x4:Int)(v4:Value)(t3:Fr),kk≤k2∧db.l1 kk a0 l2 x4=some r∧t=aU t3 [(2,sn),(6,v4),(25,v0_),(26,ii (a0.length:Int)),(27,ii x4),(1000000,undef)]∧St no w0 w [.own (.int .u8) 5 v4 l2]) k2 ?_ ?_
 ·exact⟨_,_,_,_,aI _,E,aD ⟨z,z,z,z,z,z,trivial⟩,H⟩
 rintro kk t w ⟨l2,x4,v4,t3,hk4,E,rfl,H⟩
 obtain⟨k3,rfl⟩|rfl:=ks kk
 rotate_left
 ·cases E
 rw[db.l1]at E
 refine rg (vr (aZ z z) (nl (ae ?_)))
 refine aE E z (fun c5 E=>?_) (fun c5 E=>?_)
 ·refine aA (ab (ae (aG (rg ?_))))
  obtain⟨⟨g7,g8⟩,E⟩:=ar E
  refine vr (bo ko (H.rd h0) z z g7 g8) (ye (uN bQ H h0 g7 g8 z (fun v5 h2=>va v5 (nl (aH (vm v4 (vm v5 ?_)))))))
  obtain⟨g9,E⟩:=ar E
  refine ye (dZ aN H 0 z (H.rd h2) z z (by omega) (by unfold maxLen;omega) (fun v6 w H=>va v6 (aK (aR (ab (aH (vr (aO z z) (vm (ii (i64.wrap (x4+1))) (aK ?_)))))))))
  exact⟨k3,bL _,_,_,_,_,bK hk4,E,aD ⟨z,z,z,z,z,z,trivial⟩,H⟩
 ·refine bt (aM (aM (bu (ab (rg (vm v4 (va v4 (nl (aj ?_)))))))))
  cases E
  exact⟨.inl z,_,tk0 z ⟨aB z (ad ai),_,z,H.bA 0 z⟩⟩
def oM.f(k:Nat)(a0:List (List Int)):Option (List Int):=(db.f k a0).bind fun x1=>some x1
theorem oM.calls{w0:World}{k:Nat}{a0:List (List Int)}{v0_:Value}{r:List Int}(h0:Rd (.sl (.of (.int .u8))) w0 (Ol no w0) v0_ a0)(E:oM.f k a0=some r):
 Calls aa 316 #[v0_] w0 fun e w'=>∃(u0:Value),e= .returned (u0)∧St no w0 w' [.own (.int .u8) 5 u0 r]:=by
 have H:=St.nil no w0
 unfold oM.f at E
 refine aP (N:=5) (args:=[v0_]) Tryz.func316 z z (by simp) ?_
 refine rg (va sn (nl (rg (vm v0_ ?_))))
 obtain⟨x1,E2,E⟩:=ay E
 refine ye (au HS z ((db.calls (H.arg (H.rd h0)) E2).mono ?_))
 rintro _ w ⟨v3,rfl,K⟩
 have H:=H.app K
 refine⟨_,z,va v3 (nl (aj ?_))⟩
 cases E
 exact⟨.inl z,_,tk0 z ⟨aB z (ad ai),_,z,H.bA 0 z⟩⟩
def eK.j0(l0r:List (List Int)→Int→List (Int)→Int→Option ((Int×Int×List Int)×Bool))(k:Nat)(a0:List (List Int))(x9:Int):Option ((Int×Int×List Int)×Bool):=bif decide (300<(a0.length:Int))then(some ((0,0,([]:List Int)),false))else(bif decide (300<x9)then(some ((0,0,([]:List Int)),false))else(l0r a0 x9 ([]:List Int) 0))
def eK.l0:Nat→List (List Int)→Int→List (Int)→Int→Option ((Int×Int×List Int)×Bool)
 |0,_,_,_,_=>none
 |k+1,a0,x9,l1,x1=>bif decide (x1<(a0.length:Int))then(an (decide ((0:Int)≤x1∧x1<(a0.length:Int))) (bif !decide (((at_ [] a0 x1).length:Int)=x9)then(some ((0,0,([]:List Int)),false))else(an (decide ((l1.length+(at_ [] a0 x1).length)*1≤140737488355328)) (eK.l0 k a0 x9 (l1++at_ [] a0 x1) (i64.wrap (x1+1))))))else(some (((a0.length:Int),x9,l1),true))
def eK.f(k:Nat)(a0:List (List Int)):Option ((Int×Int×List Int)×Bool):=bif decide (0<(a0.length:Int))then(an (decide ((0:Int)≤0∧0<(a0.length:Int))) (eK.j0 (eK.l0 k) k a0 ((at_ [] a0 0).length:Int)))else(eK.j0 (eK.l0 k) k a0 0)
theorem eK.calls{w0:World}{k:Nat}{a0:List (List Int)}{v0_:Value}{r:(Int×Int×List Int)×Bool}(h0:Rd (.sl (.of (.int .u8))) w0 (Ol no w0) v0_ a0)(E:eK.f k a0=some r):
 Calls aa 317 #[v0_] w0 fun e w'=>∃(u0_2:Value),e= .returned (.tuple #[.agg #[ii r.1.1,ii r.1.2.1,u0_2],.bool r.2])∧St no w0 w' [.own (.int .u8) 5 u0_2 r.1.2.2]:=by
 have H:=St.nil no w0
 unfold eK.f at E
 refine aP (N:=46) (args:=[v0_]) Tryz.func317 z z (by simp) ?_
 refine rg (ye (cr ra H (fun b1 w H=>va (.bool false) (nl (rg (vm v0_ (vr (aY nF (H.rd h0) z) (vr (cf (cs:=[ii (a0.length:Int),ii 0,sn]) pb z) (ye (cr ra H (fun b2 w H=>s_ (cy lA H 1 z z z z z z (fun w H=>nl ?_)))))))))))))
 refine cA (fun t w=>∃(k11:Nat)(x9:Int)(t1:Fr),k11≤k∧eK.j0 (eK.l0 k11) k11 a0 x9=some r∧t=aU t1 [(0,v0_),(2,pt b1),(3,.bool false),(4,pt b2),(1000000,undef)]∧St no w0 w [.blk b1 #[ii 0,ii 0,sn] 88,.blk b2 #[ii (a0.length:Int),ii x9,sn] 88]) ?_ ?_
 ·refine rg (vr (az mq z) (vr (av bf z (ak (H.Gt 1 z) z)) (vr (dy z z) (nl ?_))))
  refine aE E z (fun c1 E=>?_) (fun c1 E=>?_)
  ·refine aH (vm v0_ ?_)
   obtain⟨⟨g1,g2⟩,E⟩:=ar E
   refine vr (bo ko (H.rd h0) z z g1 g2) (ye (uN bQ H h0 g1 g2 z (fun v1 h1=>vr (aY bI (H.rd h1) z) (vr (az cS z) (s_ (cQ gJ H 1 z z z z z (fun w H=>aK ?_)))))))
   exact⟨k,_,_,aI _,E,aD ⟨z,z,z,z,z,trivial⟩,H⟩
  ·refine aA ?_
   exact⟨k,_,_,aI _,E,aD ⟨z,z,z,z,z,trivial⟩,H⟩
 rintro t w ⟨k11,x9,t1,hk1,E,rfl,H⟩
 unfold eK.j0 at E
 refine ae (rg (vr (az mq z) (vr (av bf z (ak (H.Gt 1 z) z)) (vr (dy z z) (vm (.bool (decide (300<(a0.length:Int)))) ?_)))))
 rcases bR (decide (300<(a0.length:Int)))with c2|c2
 ·have E:=iT c2 E
  refine ow c2 z (ow c2 z (ow c2 z (vr (pT (.bool true) z z c2) (nl (cl z (rg (vr (cf (cs:=[ii 0,ii 0,sn]) pb z) (s_ (cy lA H 0 z z z z z z (fun w H=>va (.bool false) (nl (aj ?_))))))))))))
  have H:=H.bB (.int .u8) 5
  cases E
  exact(aL ⟨.inl z,_,tk0 z ⟨aB z (dL z jD (eG (n:=3) (H.Gt 0 z) z) z (ad ai)),_,z,H.bA 2 z⟩⟩)
 ·have E:=iF c2 E
  refine oo c2 z (az cS z) (oo c2 z (av bf z (ak (H.Gt 1 z) z)) (oo c2 z (dy z z) (vr (pF (.bool (decide (300<x9))) z z c2) (nl ?_))))
  refine aE E z (fun c3 E=>?_) (fun c3 E=>?_)
  ·refine rg (vr (cf (cs:=[ii 0,ii 0,sn]) pb z) (s_ (cy lA H 0 z z z z z z (fun w H=>va (.bool false) (nl (aj ?_))))))
   have H:=H.bB (.int .u8) 5
   cases E
   exact(aL ⟨.inl z,_,tk0 z ⟨aB z (dL z jD (eG (n:=3) (H.Gt 0 z) z) z (ad ai)),_,z,H.bA 2 z⟩⟩)
  ·refine aA (ab (ae (rg (vm v0_ (vr (aY nF (H.rd h0) z) (vm (ii 0) (nl (aG ?_))))))))
   have H:=H.bB (.int .u8) 5
   refine bx (fun kk t w=>∃(l1:List Int)(x1:Int)(v2:Value)(t2:Fr),kk≤k11∧eK.l0 kk a0 x9 l1 x1=some r∧t=aU t2 [(2,pt b1),(3,.bool false),(4,pt b2),(27,v0_),(28,ii (a0.length:Int)),(29,ii x1),(1000000,undef)]∧St no w0 w [.blk b1 #[ii 0,ii 0,sn] 88,.blk b2 #[ii (a0.length:Int),ii x9,v2] 88,.own (.int .u8) 5 v2 l1]) k11 ?_ ?_
   ·exact⟨_,_,_,_,aI _,E,aD ⟨z,z,z,z,z,z,z,trivial⟩,H⟩
   rintro kk t w ⟨l1,x1,v2,t2,hk2,E,rfl,H⟩
   obtain⟨k1,rfl⟩|rfl:=ks kk
   rotate_left
   ·cases E
   rw[eK.l0]at E
   refine rg (vr (aZ z z) (nl (ae ?_)))
   refine aE E z (fun c4 E=>?_) (fun c4 E=>?_)
   ·refine aA (ab (ae (aG (rg ?_))))
    obtain⟨⟨g3,g4⟩,E⟩:=ar E
    refine vr (bo ko (H.rd h0) z z g3 g4) (ye (uN bQ H h0 g3 g4 z (fun v3 h2=>va v3 (nl (ae (rg (vm v3 (vr (aY bI (H.rd h2) z) (vr (az cS z) (vr (av bf z (ak (H.Gt 1 z) z)) (vr (cx z z) (nl ?_))))))))))))
    refine aE E z (fun c5 E=>?_) (fun c5 E=>?_)
    ·refine rg (vr (cf (cs:=[ii 0,ii 0,sn]) pb z) (s_ (cy lA H 0 z z z z z z (fun w H=>va (.bool false) (nl (aj ?_))))))
     have H:=H.bB (.int .u8) 5
     cases E
     exact(aL (bG (aL (aL (bG (aL ⟨.inl z,_,tk0 z ⟨aB z (dL z jD (eG (n:=3) (H.Gt 0 z) z) z (ad ai)),_,z,H.bA 3 z⟩⟩))))))
    ·refine aA (ab (aH (vr (az gI z) (vr (av bQ z (ak (H.Gt 1 z) z)) (vm v3 ?_)))))
     obtain⟨g5,E⟩:=ar E
     refine ye (dZ aN H 2 z (H.rd h2) z z (by omega) (by unfold maxLen;omega) (fun v4 w H=>(vr (az gI z) ?_)))
     obtain⟨p1,n1,c6,rfl⟩:=bX (H.Gt 2 z)
     refine s_ (cQ pA H 1 z z z z z (fun w H=>aK (aR (ab (aH (vr (aO z z) (vm (ii (i64.wrap (x1+1))) (aK ?_))))))))
     exact⟨k1,bL _,_,_,_,_,bK hk2,E,aD ⟨z,z,z,z,z,z,z,trivial⟩,H⟩
   ·refine bt (aM (aM (bu (ab (rg (vr (bp (l:=[ii (a0.length:Int),ii x9,v2]) jD (H.Gt 1 z) z z z) ?_))))))
    obtain⟨p2,n2,c7,rfl⟩:=bX (H.Gt 2 z)
    refine s_ (cy lA H 0 z z z z z z (fun w H=>va (.bool true) (nl (aj ?_))))
    cases E
    exact⟨.inl z,_,tk0 z ⟨aB z (dL z jD (eG (n:=3) (H.Gt 0 z) z) z (ad ai)),_,z,H.bA 2 z⟩⟩
def mM.f(a0:Int):Option (Bool):=bif decide (0≤a0)then(some (decide (a0≤300)))else(some false)
theorem mM.calls{w0:World}{a0:Int}{r:Bool}(E:mM.f a0=some r):
 Calls aa 378 #[ii a0] w0 fun e w'=>e= .returned (.bool r)∧St no w0 w' []:=by
 have H:=St.nil no w0
 unfold mM.f at E
 refine aP (N:=9) (args:=[ii a0]) Tryz.func378 z z (by simp) ?_
 refine rg (va (.bool false) (nl (rg (vm (ii a0) (vr (dq z z) (vm (.bool (decide (0≤a0))) ?_))))))
 rcases bR (decide (0≤a0))with c1|c1
 ·have E:=iT c1 E
  refine oo c1 z (mv (ii a0) z) (oo c1 z (gS z z) (vr (pT (.bool (decide (a0≤300))) z z c1) (va (.bool (decide (a0≤300))) (nl (aj ?_)))))
  cases E
  exact⟨.inl z,_,tk0 z ⟨aB z (ad ai),z,H.bs⟩⟩
 ·have E:=iF c1 E
  refine ow c1 z (ow c1 z (vr (pF (.bool false) z z c1) (va (.bool false) (nl (aj ?_)))))
  cases E
  exact⟨.inl z,_,tk0 z ⟨aB z (ad ai),z,H.bs⟩⟩
def nY.f(a0:Int×Int×List Int):Option (Bool):=(mM.f a0.1).bind fun x2=>bif x2 then((mM.f a0.2.1).bind fun x5=>bif x5 then(some (decide ((a0.2.2.length:Int)=i64.wrap (a0.1*a0.2.1))))else(some false))else(some false)
theorem nY.calls{w0:World}{a0:Int×Int×List Int}{v0_2_:Value}{r:Bool}(h0_2:Rd (.of (.int .u8)) w0 (Ol no w0) v0_2_ a0.2.2)(E:nY.f a0=some r):
 Calls aa 371 #[.agg #[ii a0.1,ii a0.2.1,v0_2_]] w0 fun e w'=>e= .returned (.bool r)∧St no w0 w' []:=by
 have H:=St.nil no w0
 unfold nY.f at E
 refine aP (N:=25) (args:=[.agg #[ii a0.1,ii a0.2.1,v0_2_]]) Tryz.func371 z z (by simp) ?_
 refine rg (ye (bc (cs:=#[ii a0.1,ii a0.2.1,v0_2_]) H z (fun b1 w H=>va (.bool false) (nl (rg (va (.func (.func 378) #[] #[]) (nl (rg (vm (.func (.func 378) #[] #[]) (vr (az mq z) (vr (av bf z (ak (H.Gt 0 z) z)) ?_)))))))))))
 obtain⟨x2,E3,E⟩:=ay E
 refine ye (kZ z zA z ((mM.calls E3).mono ?_))
 rintro _ w ⟨rfl,K⟩
 have H:=H.app K
 refine⟨_,z,(vm (.bool x2) ?_)⟩
 rcases bR (x2)with c4|c4
 ·have E:=iT c4 E
  refine oo c4 z (mv (.func (.func 378) #[] #[]) z) (oo c4 z (az cS z) (oo c4 z (av bf z (ak (H.Gt 0 z) z)) ?_))
  obtain⟨x5,E6,E⟩:=ay E
  refine dP z c4 z (kZ z zA z ((mM.calls E6).mono ?_))
  rintro _ w ⟨rfl,K⟩
  have H:=H.app K
  refine⟨_,z,vr (pT (.bool x5) z z c4) (vm (.bool x5) ?_)⟩
  rcases bR (x5)with c7|c7
  ·have E:=iT c7 E
   refine oo c7 z (az gI z) (oo c7 z (av bQ z (ak (H.Gt 0 z) z)) (oo c7 z (aY bI (H.rd h0_2) z) (oo c7 z (az mq z) (oo c7 z (av bf z (ak (H.Gt 0 z) z)) (oo c7 z (az cS z) (oo c7 z (av bf z (ak (H.Gt 0 z) z)) (oo c7 z (cF z z) (oo c7 z (cg z z) (vr (pT (.bool (decide ((a0.2.2.length:Int)=i64.wrap (a0.1*a0.2.1)))) z z c7) (va (.bool (decide ((a0.2.2.length:Int)=i64.wrap (a0.1*a0.2.1)))) (nl (aj ?_))))))))))))
   cases E
   exact⟨.inl z,_,tk0 z ⟨aB z (ad ai),z,H.bs⟩⟩
  ·have E:=iF c7 E
   refine ow c7 z (ow c7 z (ow c7 z (ow c7 z (ow c7 z (ow c7 z (ow c7 z (ow c7 z (ow c7 z (vr (pF (.bool false) z z c7) (va (.bool false) (nl (aj ?_))))))))))))
   cases E
   exact⟨.inl z,_,tk0 z ⟨aB z (ad ai),z,H.bs⟩⟩
 ·have E:=iF c4 E
  refine ow c4 z (ow c4 z (ow c4 z (ow c4 z (vr (pF (.bool false) z z c4) (vm (.bool false) (ow z z (ow z z (ow z z (ow z z (ow z z (ow z z (ow z z (ow z z (ow z z (vr (pF (.bool false) z z z) (va (.bool false) (nl (aj ?_))))))))))))))))))
  cases E
  exact⟨.inl z,_,tk0 z ⟨aB z (ad ai),z,H.bs⟩⟩
end Go.Proofs.YtmhkpafkadijgaaGreatDoor.Gw
