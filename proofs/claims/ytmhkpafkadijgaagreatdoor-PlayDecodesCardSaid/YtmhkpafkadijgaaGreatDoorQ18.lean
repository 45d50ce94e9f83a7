/- A part of the proof of Rows.PlayDecodesCardSaid; the conditions are that card's own. -/
import Derived.Test.YtmhkpafkadijgaaGreatDoorQ17
set_option linter.all false
set_option maxRecDepth 100000
set_option maxHeartbeats 4000000
namespace Go.Proofs.YtmhkpafkadijgaaGreatDoor.Gw
open Go.IntKind renaming wrap→I,i64→W
open Go Go.RowKit
variable[de]
open Go.IntKind (i8 i16 i32 i64 u8 u16 u32 u64)
open Tryz hiding prog
open Tryz renaming prog → aa
variable{w0:World}{k:Nat}{F_:FD}{v0_ v0_2_:Value}
def bW.j2(l1r l2r:Int→Int→Int→((Int×Bool)×List Int)→Option ((Unit)×List Int))(k:Nat)(a3 x1 x2:Int)(x3:Int×Int)(l1:List Int)(x4:Bool):Option ((Unit)×List Int):=bif x4 then(none)else((ck.f k l1 x1 x2 x3.1).bind fun x5=>bif decide (I W (x5.1.1-x1)<I W (x2-x5.1.1))then(l1r a3 x1 x2 x5)else(l2r a3 x1 x2 x5))
def bW.j0(l1r l2r:Int→Int→Int→((Int×Bool)×List Int)→Option ((Unit)×List Int))(k:Nat)(a3 x1 x2:Int)(x3:Int×Int)(l1:List Int):Option ((Unit)×List Int):=bif decide (0<x1)then(an (decide ((0:Int)≤I W (x1-1)∧I W (x1-1)<(l1.length:Int))) (an (decide ((0:Int)≤x3.1∧x3.1<(l1.length:Int))) ((eI.f (at_ 0 l1 (I W (x1-1))) (at_ 0 l1 x3.1)).bind fun x4=>bW.j2 l1r l2r k a3 x1 x2 x3 l1 (!x4))))else(bW.j2 l1r l2r k a3 x1 x2 x3 l1 false)
def bW.j1(l1r l2r:Int→Int→Int→((Int×Bool)×List Int)→Option ((Unit)×List Int))(k:Nat)(a3:Int)(l1:List Int)(x1 x2:Int)(x3:Int×Int)(x4:Bool):Option ((Unit)×List Int):=bif x4 then((fI.f k l1 x1 x2).bind fun x5=>bif x5.1 then(some ((),x5.2))else(bW.j0 l1r l2r k a3 x1 x2 x3 x5.2))else(bW.j0 l1r l2r k a3 x1 x2 x3 l1)
mutual
def bW.l0:Nat→Int→List (Int)→Int→Int→Bool→Bool→Option ((Unit)×List Int)
 |0,_,_,_,_,_,_=>none
 |k+1,a3,l1,x1,x2,x3,x4=>bif decide (I W (x2-x1)≤12)then((fA.f k l1 x1 x2).bind fun x5=>some ((),x5.2))else(bif decide (a3=0)then(none)else(bif !x3 then(none)else((dY.f l1 x1 x2).bind fun x6=>bif decide (x6.2=2)then(none)else(bif x3 then(bif x4 then(bW.j1 (bW.l1 k) (bW.l2 k) k a3 l1 x1 x2 x6 (decide (x6.2=1)))else(bW.j1 (bW.l1 k) (bW.l2 k) k a3 l1 x1 x2 x6 false))else(bW.j1 (bW.l1 k) (bW.l2 k) k a3 l1 x1 x2 x6 false)))))
def bW.l1:Nat→Int→Int→Int→((Int×Bool)×List Int)→Option ((Unit)×List Int)
 |0,_,_,_,_=>none
 |k+1,a3,x1,x2,x7=>bif decide (I W (x7.1.1-x1)≤12)then((fA.f k x7.2 x1 x7.1.1).bind fun x8=>bW.l0 k a3 x8.2 (I W (x7.1.1+1)) x2 (decide (I W (Int.tdiv (I W (x2-x1)) 8)≤I W (x7.1.1-x1))) x7.1.2)else(none)
def bW.l2:Nat→Int→Int→Int→((Int×Bool)×List Int)→Option ((Unit)×List Int)
 |0,_,_,_,_=>none
 |k+1,a3,x1,x2,x7=>bif decide (I W (x2-(I W (x7.1.1+1)))≤12)then((fA.f k x7.2 (I W (x7.1.1+1)) x2).bind fun x9=>bW.l0 k a3 x9.2 x1 x7.1.1 (decide (I W (Int.tdiv (I W (x2-x1)) 8)≤I W (x2-x7.1.1))) x7.1.2)else(none)
end
def bW.f(k:Nat)(l0_:List Int)(a1 a2 a3:Int):Option ((Unit)×List Int):=bW.l0 k a3 l0_ a1 a2 true true
theorem bW.calls{l0_:List Int}{a1 a2 a3:Int}{r:(Unit)×List Int}(hf:(Rs.own (.int .u8) 5 v0_ l0_).inv w0)(E:bW.f k l0_ a1 a2 a3=some r):
 Calls aa 346 #[v0_,ii a1,ii a2,ii a3] w0 fun e w'=>e= .returned (.tuple #[])∧St (Rs.own (.int .u8) 5 v0_ l0_).fp w0 w' [.own (.int .u8) 5 v0_ r.2]:=by
 have H:=St.start hf
 unfold bW.f at E
 refine aP (N:=134) (args:=[v0_,ii a1,ii a2,ii a3]) Tryz.func346 z z j_ ?_
 refine rg (va (.bool true) (nl (rg (va (.bool true) (nl (aG ?_))))))
 refine bx (fun kk t w=>∃(l1:List Int)(x1 x2:Int)(x3 x4:Bool)(t1:Fr),kk≤k∧bW.l0 kk a3 l1 x1 x2 x3 x4=some r∧t=aU t1 [(0,v0_),(1,ii x1),(2,ii x2),(3,ii a3),(8,.bool x3),(9,.bool x4),(1000000,undef)]∧St (Rs.own (.int .u8) 5 v0_ l0_).fp w0 w [.own (.int .u8) 5 v0_ l1]) k ?_ ?_
 ·exact⟨_,_,_,_,_,_,aI _,E,aD ⟨z,z,z,z,z,z,z,acu⟩,H⟩
 rintro kk t w ⟨l1,x1,x2,x3,x4,t1,hk1,E,rfl,H⟩
 obtain⟨k1,rfl⟩|rfl:=ks kk
 rotate_left
 ·cases E
 rw[bW.l0]at E
 refine aG (rg (vm (ii x2) (vm (ii x1) (vr (bV z z) (va (ii (I W (x2-x1))) (nl (ae (rg (vm (ii (I W (x2-x1))) (vr (gS z z) (nl ?_)))))))))))
 refine aE E z (fun c1 E=>?_) (fun c1 E=>?_)
 ·refine rg (vm v0_ (vm (ii x1) (vm (ii x2) ?_)))
  refine ye (YL vt H 0 E z (fun _ h=>fA.calls (H.Gt 0 z) h) (fun x5 E w H=>nl (aj ?_)))
  cases E
  exact(aL (bG (aL (bG ⟨.inl z,_,tk0 z ⟨aB z ai,z,H.bA 0 z⟩⟩))))
 refine aA (ab (ae (rg (vm (ii a3) (vr (cg z z) (nl ?_))))))
 refine aE E z (fun c2 E=>?_) (fun c2 E=>?_)
 ·cases E
 refine aA (ab (ae (rg (vm (.bool x3) (vr (cp z) (nl ?_))))))
 refine aE E z (fun c3 E=>?_) (fun c3 E=>?_)
 ·cases E
 refine aA (ab (rg (vm v0_ (vm (ii x1) (vm (ii x2) ?_)))))
 refine ye (E9 HX H E (fun _ h=>dY.calls (H.own 0 z (ao (H.Gt 0 z))) h) (fun x6 E w H=>vr cz (vr (aX z z) (vr (aX z z) (va (ii x6.1) (va (ii x6.2) (nl (ae (rg (vm (ii x6.2) (vr (cg z z) (nl ?_))))))))))))
 refine aE E z (fun c4 E=>?_) (fun c4 E=>?_)
 ·cases E
 refine aA (ab ?_)
 refine cA (fun t w=>∃(k2:Nat)(l2:List Int)(t2:Fr),k2≤k1∧bW.j0 (bW.l1 k2) (bW.l2 k2) k2 a3 x1 x2 x6 l2=some r∧t=aU t2 [(0,v0_),(1,ii x1),(2,ii x2),(3,ii a3),(8,.bool x3),(9,.bool x4),(10,ii (I W (x2-x1))),(11,ii x6.1),(1000000,undef)]∧St (Rs.own (.int .u8) 5 v0_ l0_).fp w0 w [.own (.int .u8) 5 v0_ l2]) ?_ ?_
 ·refine cA (fun t w=>∃(k3:Nat)(x7:Bool)(t3:Fr),k3≤k1∧bW.j1 (bW.l1 k3) (bW.l2 k3) k3 a3 l1 x1 x2 x6 x7=some r∧t=aU t3 [(0,v0_),(1,ii x1),(2,ii x2),(3,ii a3),(8,.bool x3),(9,.bool x4),(10,ii (I W (x2-x1))),(11,ii x6.1),(68,.bool x7),(1000000,undef)]∧St (Rs.own (.int .u8) 5 v0_ l0_).fp w0 w [.own (.int .u8) 5 v0_ l1]) ?_ ?_
  ·refine aH (vm (.bool x3) (vm (.bool x3) ?_))
   rcases bR (x3)with c5|c5
   ·have E:=iT c5 E
    refine oo c5 z (mv (.bool x4) z) (vr (pT (.bool x4) z z c5) (vm (.bool x4) ?_))
    rcases bR (x4)with c6|c6
    ·have E:=iT c6 E
     refine oo c6 z (mv (ii x6.2) z) (oo c6 z (cg z z) (vr (pT (.bool (decide (x6.2=1))) z z c6) (aK ?_)))
     exact⟨k1,_,_,aI _,E,aD ⟨z,z,z,z,z,z,z,z,z,z,acu⟩,H⟩
    have E:=iF c6 E
    refine ow c6 z (ow c6 z (vr (pF (.bool false) z z c6) (aK ?_)))
    exact⟨k1,_,_,aI _,E,aD ⟨z,z,z,z,z,z,z,z,z,z,acu⟩,H⟩
   have E:=iF c5 E
   refine ow c5 z (vr (pF (.bool false) z z c5) (vm (.bool false) (ow z z (ow z z (vr (pF (.bool false) z z z) (aK ?_))))))
   exact⟨k1,_,_,aI _,E,aD ⟨z,z,z,z,z,z,z,z,z,z,acu⟩,H⟩
  rintro t w ⟨k3,x7,t3,hk2,E,rfl,H⟩
  unfold bW.j1 at E
  refine aE E z (fun c7 E=>?_) (fun c7 E=>?_)
  ·refine rg (vm v0_ (vm (ii x1) (vm (ii x2) ?_)))
   refine ye (YL HY H 0 E z (fun _ h=>fI.calls (H.Gt 0 z) h) (fun x8 E w H=>nl ?_))
   refine aE E z (fun c8 E=>?_) (fun c8 E=>?_)
   ·refine aj ?_
    cases E
    exact(aL (bG (aL (bG ⟨.inl z,_,tk0 z ⟨aB z ai,z,H.bA 0 z⟩⟩))))
   refine aA ?_
   exact⟨k3,_,_,a_,E,aD ⟨z,z,z,z,z,z,z,z,z,acu⟩,H⟩
  refine aA ?_
  exact⟨k3,_,_,a_,E,aD ⟨z,z,z,z,z,z,z,z,z,acu⟩,H⟩
 rintro t w ⟨k2,l2,t2,hk3,E,rfl,H⟩
 unfold bW.j0 at E
 refine ae ?_
 refine cA (fun t w=>∃(k4:Nat)(x9:Bool)(t4:Fr),k4≤k2∧bW.j2 (bW.l1 k4) (bW.l2 k4) k4 a3 x1 x2 x6 l2 x9=some r∧t=aU t4 [(0,v0_),(1,ii x1),(2,ii x2),(3,ii a3),(8,.bool x3),(9,.bool x4),(10,ii (I W (x2-x1))),(11,ii x6.1),(87,.bool x9),(1000000,undef)]∧St (Rs.own (.int .u8) 5 v0_ l0_).fp w0 w [.own (.int .u8) 5 v0_ l2]) ?_ ?_
 ·refine cd (ds:=[]) bZ H z z ?_
  have H:=H.drew
  refine wm 0 z H (ii x1) (wg 1 z H (dy z z) (wm 2 z H (.bool (decide (0<x1))) ?_))
  rcases bR (decide (0<x1))with c9|c9
  ·have E:=iT c9 E
   refine wn 3 z z z c9 H (fun w H=>mv v0_ z) (wn 4 z z z c9 H (fun w H=>mv (ii x1) z) (wn 5 z z z c9 H (fun w H=>bV z z) ?_))
   obtain⟨⟨g1,g2⟩,E⟩:=ar E
   refine wn 6 z z z c9 H (fun w H=>bo aN (ao (H.Gt 0 z)) z z g1 g2) (wn 7 z z z c9 H (fun w H=>bq bC (ao (H.Gt 0 z)) g1 g2 z) (wn 8 z z z c9 H (fun w H=>mv v0_ z) (wn 9 z z z c9 H (fun w H=>mv (ii x6.1) z) ?_)))
   obtain⟨⟨g3,g4⟩,E⟩:=ar E
   refine wn 10 z z z c9 H (fun w H=>bo aN (ao (H.Gt 0 z)) z z g3 g4) (wn 11 z z z c9 H (fun w H=>bq bC (ao (H.Gt 0 z)) g3 g4 z) ?_)
   refine wp 12 z z z c9 (E9 kN H E (fun _ h=>eI.calls h) (fun x10 E w H=>⟨fun _=>H.ag [0] z z,wn 13 z z z c9 (H.ag [0] z z) (fun w H=>cp z) (wg 14 z (H.ag [0] z z) (pT (.bool (!x10)) z z c9) (wd ?_))⟩))
   exact⟨k2,_,_,aI _,E,aD ⟨z,z,z,z,z,z,z,z,z,z,acu⟩,H⟩
  have E:=iF c9 E
  refine wf 3 z z z c9 H (wf 4 z z z c9 H (wf 5 z z z c9 H (wf 6 z z z c9 H (wf 7 z z z c9 H (wf 8 z z z c9 H (wf 9 z z z c9 H (wf 10 z z z c9 H (wf 11 z z z c9 H (wf 12 z z z c9 H (wf 13 z z z c9 H (wg 14 z H (pF (.bool false) z z c9) (wd ?_))))))))))))
  exact⟨k2,_,_,aI _,E,aD ⟨z,z,z,z,z,z,z,z,z,z,acu⟩,H⟩
 rintro t w ⟨k4,x9,t4,hk4,E,rfl,H⟩
 unfold bW.j2 at E
 refine aE E z (fun c10 E=>?_) (fun c10 E=>?_)
 ·cases E
 refine aA (ab (rg (vm v0_ (vm (ii x1) (vm (ii x2) (vm (ii x6.1) ?_))))))
 refine ye (YL HZ H 0 E z (fun _ h=>ck.calls (H.Gt 0 z) h) (fun x11 E w H=>vr cz (vr (aX z z) (vr (aX z z) (va (ii x11.1.1) (va (.bool x11.1.2) (nl (rg (vm (.bool x11.1.2) (va (.bool x11.1.2) (nl (rg (vm (ii x11.1.1) (vm (ii x1) (vr (bV z z) (vm (ii x2) (vm (ii x11.1.1) (vr (bV z z) (va (ii (I W (x11.1.1-x1))) (va (ii (I W (x2-x11.1.1))) (nl (rg (vm (ii (I W (x2-x1))) (vr (ie z z f_) (va (ii (I W (Int.tdiv (I W (x2-x1)) 8))) (nl (rg (vm (ii (I W (x11.1.1-x1))) (vm (ii (I W (x2-x11.1.1))) (vr (aZ z z) (nl ?_)))))))))))))))))))))))))))))))
 refine aE E z (fun c11 E=>?_) (fun c11 E=>?_)
 ·refine rg (vm (ii (I W (x11.1.1-x1))) (vm (ii (I W (Int.tdiv (I W (x2-x1)) 8))) (vr (dq z z) (va (.bool (decide (I W (Int.tdiv (I W (x2-x1)) 8)≤I W (x11.1.1-x1)))) (nl (rg (vm v0_ (vm (ii x1) (vm (ii x11.1.1) (vm (ii a3) (ye (cm 134 [v0_,ii x1,ii x11.1.1,ii a3] vq Tryz.func346 z z z z (rg (va (.bool true) (nl (rg (va (.bool true) (nl (aG ?_)))))))))))))))))))
  refine bx (fun kk t w=>∃(t5:Fr),kk≤k4∧bW.l1 kk a3 x1 x2 x11=some r∧t=aU t5 [(0,v0_),(1,ii x1),(2,ii x11.1.1),(3,ii a3),(8,.bool true),(9,.bool true),(1000000,undef)]∧St (Rs.own (.int .u8) 5 v0_ l0_).fp w0 w [.own (.int .u8) 5 v0_ x11.2]) k4 ?_ ?_
  ·exact⟨_,aI _,E,aD ⟨z,z,z,z,z,z,z,acu⟩,H⟩
  rintro kk t w ⟨t5,hk5,E,rfl,H⟩
  obtain⟨k5,rfl⟩|rfl:=ks kk
  rotate_left
  ·cases E
  rw[bW.l1]at E
  refine aG (rg (vm (ii x11.1.1) (vm (ii x1) (vr (bV z z) (va (ii (I W (x11.1.1-x1))) (nl (ae (rg (vm (ii (I W (x11.1.1-x1))) (vr (gS z z) (nl ?_)))))))))))
  refine aE E z (fun c12 E=>?_) (fun c12 E=>?_)
  ·refine rg (vm v0_ (vm (ii x1) (vm (ii x11.1.1) ?_)))
   refine ye (YL vt H 0 E z (fun _ h=>fA.calls (H.Gt 0 z) h) (fun x12 E w H=>nl (aj (aL (bG (aL (bG ⟨.inl z,.tuple #[],tk0 z ⟨ba z ai z,nl (aH (vm (ii x11.1.1) (vr (aO z z) (va (ii (I W (x11.1.1+1))) (aK (aR ?_))))))⟩⟩)))))))
   exact⟨k5,a_,_,_,_,_,_,_,a_,E,aD ⟨z,z,z,z,z,z,z,acu⟩,H⟩
  cases E
 refine rg (vm (ii (I W (x2-x11.1.1))) (vm (ii (I W (Int.tdiv (I W (x2-x1)) 8))) (vr (dq z z) (va (.bool (decide (I W (Int.tdiv (I W (x2-x1)) 8)≤I W (x2-x11.1.1)))) (nl (rg (vm v0_ (vm (ii x11.1.1) (vr (aO z z) (vm (ii x2) (vm (ii a3) (ye (cm 134 [v0_,ii (I W (x11.1.1+1)),ii x2,ii a3] vq Tryz.func346 z z z z (rg (va (.bool true) (nl (rg (va (.bool true) (nl (aG ?_))))))))))))))))))))
 refine bx (fun kk t w=>∃(t6:Fr),kk≤k4∧bW.l2 kk a3 x1 x2 x11=some r∧t=aU t6 [(0,v0_),(1,ii (I W (x11.1.1+1))),(2,ii x2),(3,ii a3),(8,.bool true),(9,.bool true),(1000000,undef)]∧St (Rs.own (.int .u8) 5 v0_ l0_).fp w0 w [.own (.int .u8) 5 v0_ x11.2]) k4 ?_ ?_
 ·exact⟨_,aI _,E,aD ⟨z,z,z,z,z,z,z,acu⟩,H⟩
 rintro kk t w ⟨t6,hk6,E,rfl,H⟩
 obtain⟨k6,rfl⟩|rfl:=ks kk
 rotate_left
 ·cases E
 rw[bW.l2]at E
 refine aG (rg (vm (ii x2) (vm (ii (I W (x11.1.1+1))) (vr (bV z z) (va (ii (I W (x2-(I W (x11.1.1+1))))) (nl (ae (rg (vm (ii (I W (x2-(I W (x11.1.1+1))))) (vr (gS z z) (nl ?_)))))))))))
 refine aE E z (fun c13 E=>?_) (fun c13 E=>?_)
 ·refine rg (vm v0_ (vm (ii (I W (x11.1.1+1))) (vm (ii x2) ?_)))
  refine ye (YL vt H 0 E z (fun _ h=>fA.calls (H.Gt 0 z) h) (fun x13 E w H=>nl (aj (aL (bG (aL (bG ⟨.inl z,.tuple #[],tk0 z ⟨ba z ai z,nl (aH (vm (ii x11.1.1) (va (ii x11.1.1) (aK (aR ?_)))))⟩⟩)))))))
  exact⟨k6,a_,_,_,_,_,_,_,a_,E,aD ⟨z,z,z,z,z,z,z,acu⟩,H⟩
 cases E
def gD.l0:Nat→Int→Int→List (Int)→Int→Option (List Int)
 |0,_,_,_,_=>none
 |k+1,a1,a2,l1,x1=>bif decide (x1<((List.replicate a2.toNat (0:Int)).length:Int))then((jK.f a1 x1).bind fun x2=>an (decide ((0:Int)≤x1∧x1<(l1.length:Int))) (gD.l0 k a1 a2 (l1.set x1.toNat x2) (I W (x1+1))))else(some l1)
def gD.f(k:Nat)(a1 a2:Int):Option (List Int):=an (decide ((0:Int)≤a2∧a2≤a2∧a2≤140737488355328)) (gD.l0 k a1 a2 (List.replicate a2.toNat (0:Int)) 0)
theorem gD.calls{a1 a2:Int}{r:List Int}(hf:(Rs.ah F_).inv w0)(E:gD.f k a1 a2=some r):
 Calls aa 315 #[pt F_.p,iu a1,ii a2] w0 fun e w'=>∃(u0:Value),e= .returned (u0)∧St (Rs.ah F_).fp w0 w' [.ah F_,.own (.int .u8) 5 u0 r]:=by
 have H:=St.start hf
 unfold gD.f at E
 refine aP (N:=25) (args:=[pt F_.p,iu a1,ii a2]) Tryz.func315 z z j_ ?_
 refine rg (va sn (nl (rg (vm (ii a2) ?_))))
 obtain⟨⟨g2,g3,g4⟩,E⟩:=ar E
 refine ye (ee (e:=(.int .u8)) (z0:=0) aN z H z z g2 g3 a_ a_ (fun v1 w H=>va v1 (nl (ae (rg (vm v1 (vr (aY bI (ao (H.Gt 1 z)) z) (vm (ii 0) (nl (aG ?_))))))))))
 refine bx (fun kk t w=>∃(l1:List Int)(x1:Int)(t1:Fr),kk≤k∧gD.l0 kk a1 a2 l1 x1=some r∧t=aU t1 [(0,pt F_.p),(1,iu a1),(6,sn),(7,v1),(12,ii ((List.replicate a2.toNat (0:Int)).length:Int)),(13,ii x1),(1000000,undef)]∧St (Rs.ah F_).fp w0 w [.ah F_,.own (.int .u8) 5 v1 l1]) k ?_ ?_
 ·exact⟨_,_,_,aI _,E,aD ⟨z,z,z,z,z,z,z,acu⟩,H⟩
 rintro kk t w ⟨l1,x1,t1,hk1,E,rfl,H⟩
 obtain⟨k19,rfl⟩|rfl:=ks kk
 rotate_left
 ·cases E
 rw[gD.l0]at E
 refine rg (vr (aZ z z) (nl (ae ?_)))
 refine aE E z (fun c1 E=>?_) (fun c1 E=>?_)
 ·refine aA (ab (ae (aG (rg (vm (ii x1) (va (ii x1) (nl (aH (vm v1 (vm (ii x1) (vm (pt F_.p) (vm (iu a1) (vm (ii x1) ?_)))))))))))))
  refine ye (YL vn H 0 E z (fun _ h=>jK.calls (H.Gt 0 z) h) (fun x2 E w H=>?_))
  obtain⟨⟨g1,g5⟩,E⟩:=ar E
  refine vr (bo aN (ao (H.Gt 1 z)) z z g1 g5) (s_ (dc dB H 1 z g1 g5 z z (fun w H=>aK (aR (ab (aH (vr (aO z z) (vm (ii (I W (x1+1))) (aK ?_)))))))))
  exact⟨k19,bL _,_,_,_,bK hk1,E,aD ⟨z,z,z,z,z,z,z,acu⟩,H⟩
 refine bt (aM (aM (bu (ab (rg (vm v1 (va v1 (nl (aj ?_)))))))))
 cases E
 exact⟨.inl z,_,tk0 z ⟨aB z (ad ai),_,z,H.bN 0 1 z z z⟩⟩
def db.j1(l1r:List (List Int)→List (Int)→Int→Option (List Int))(k:Nat)(a0:List (List Int))(l1:List Int):Option (List Int):=l1r a0 l1 0
def db.j0(l1r:List (List Int)→List (Int)→Int→Option (List Int))(k:Nat)(a0:List (List Int))(x1:Int):Option (List Int):=bif decide (x1<0)then(none)else(bif decide (0<I W (x1-0))then(an (decide ((0:Int)<I W (x1-0)∧1*I W (x1-0)≤140737488355328)) (an (decide ((0:Int)≤0∧0≤((List.replicate (I W (x1-0)).toNat (0:Int)).length:Int))) (db.j1 l1r k a0 ((List.replicate (I W (x1-0)).toNat (0:Int)).take ((0:Int).toNat)))))else(db.j1 l1r k a0 ([]:List Int)))
mutual
def db.l0:Nat→List (List Int)→Int→Int→Option (List Int)
 |0,_,_,_=>none
 |k+1,a0,x1,x2=>bif decide (x2<(a0.length:Int))then(an (decide ((0:Int)≤x2∧x2<(a0.length:Int))) (bif decide (I W (x1+((at_ [] a0 x2).length:Int))<0)then(none)else(db.l0 k a0 (I W (x1+((at_ [] a0 x2).length:Int))) (I W (x2+1)))))else(db.j0 (db.l1 k) k a0 x1)
def db.l1:Nat→List (List Int)→List (Int)→Int→Option (List Int)
 |0,_,_,_=>none
 |k+1,a0,l1,x3=>bif decide (x3<(a0.length:Int))then(an (decide ((0:Int)≤x3∧x3<(a0.length:Int))) (an (decide ((l1.length+(at_ [] a0 x3).length)*1≤140737488355328)) (db.l1 k a0 (l1++at_ [] a0 x3) (I W (x3+1)))))else(some l1)
end
def db.f(k:Nat)(a0:List (List Int)):Option (List Int):=db.l0 k a0 0 0
theorem db.calls{a0:List (List Int)}{r:List Int}(h0:Rd (.sl (.of (.int .u8))) w0 (Ol no w0) v0_ a0)(E:db.f k a0=some r):
 Calls aa 347 #[v0_] w0 fun e w'=>∃(u0:Value),e= .returned (u0)∧St no w0 w' [.own (.int .u8) 5 u0 r]:=by
 have H:=St.nil no w0
 unfold db.f at E
 refine aP (N:=36) (args:=[v0_]) Tryz.func347 z z j_ ?_
 refine rg (va sn (nl (rg (va (ii 0) (nl ?_)))))
 refine cA (fun t w=>∃(k30:Nat)(x1:Int)(t1:Fr),k30≤k∧db.j0 (db.l1 k30) k30 a0 x1=some r∧t=aU t1 [(0,v0_),(2,sn),(3,ii x1),(1000000,undef)]∧St no w0 w []) ?_ ?_
 ·refine rg (vm v0_ (vr (aY nF (H.rd h0) z) (vm (ii 0) (nl (aG ?_)))))
  refine bx (fun kk t w=>∃(x2 x3:Int)(t2:Fr),kk≤k∧db.l0 kk a0 x2 x3=some r∧t=aU t2 [(0,v0_),(2,sn),(3,ii x2),(9,v0_),(10,ii (a0.length:Int)),(11,ii x3),(1000000,undef)]∧St no w0 w []) k ?_ ?_
  ·exact⟨_,_,_,aI _,E,aD ⟨z,z,z,z,z,z,z,acu⟩,H⟩
  rintro kk t w ⟨x2,x3,t2,hk1,E,rfl,H⟩
  obtain⟨k1,rfl⟩|rfl:=ks kk
  rotate_left
  ·cases E
  rw[db.l0]at E
  refine rg (vr (aZ z z) (nl (ae ?_)))
  refine aE E z (fun c1 E=>?_) (fun c1 E=>?_)
  ·refine aA (ab (ae (aG (rg ?_))))
   obtain⟨⟨g1,g2⟩,E⟩:=ar E
   refine vr (bo ko (H.rd h0) z z g1 g2) (ye (uN bQ H h0 g1 g2 z (fun v1 h1=>va v1 (nl (rg (vm (ii x2) (vm v1 (vr (aY bI (H.rd h1) z) (vr (aO z z) (va (ii (I W (x2+((at_ [] a0 x3).length:Int)))) (nl (rg (vm (ii (I W (x2+((at_ [] a0 x3).length:Int)))) (vr (aZ z z) (nl ?_)))))))))))))))
   refine aE E z (fun c2 E=>?_) (fun c2 E=>?_)
   ·refine aH ?_
    cases E
   refine aA (aR (ab (aH (vr (aO z z) (vm (ii (I W (x3+1))) (aK ?_))))))
   exact⟨k1,bL _,_,_,_,bK hk1,E,aD ⟨z,z,z,z,z,z,z,acu⟩,H⟩
  refine bt (aM (aM (bu ?_)))
  exact⟨k1,_,_,a_,E,aD ⟨z,z,z,z,acu⟩,H⟩
 rintro t w ⟨k30,x1,t1,hk2,E,rfl,H⟩
 unfold db.j0 at E
 refine rg (vm (ii x1) ?_)
 refine ye (fZ (fun v w=>∃(k2:Nat)(l1:List Int)(v2:Value),k2≤k30∧db.j1 (db.l1 k2) k2 a0 l1=some r∧v=v2∧St no w0 w [.own (.int .u8) 5 v2 l1]) ?_ ?_)
 ·refine(cm 27 [sn,ii x1] H0 Tryz.func370 z z z z (rg (va sn (nl (ae (rg (vm (ii x1) (vr (aZ z z) (nl ?_)))))))))
  refine aE E z (fun c3 E=>?_) (fun c3 E=>?_)
  ·refine aH ?_
   cases E
  refine aA (ab (ae (rg (vm (ii x1) (vm sn (vr (bJ (Cz bI z) (v':=ii 0) z) (vm sn (vr (bJ (lP bI z) (v':=ii 0) z) (vr (bJ (v':=ii 0) (bV z z) z) (vr (bV z z) (va (ii (I W (x1-0))) (nl (rg (vm (ii (I W (x1-0))) (vr (dy z z) (nl ?_))))))))))))))))
  refine aE E z (fun c4 E=>?_) (fun c4 E=>?_)
  ·refine aH (vm sn (vm sn (vr (bJ (Cz bI z) (v':=ii 0) z) (vr (bJ (CH aN z z f_ f_) (v':=sn) z) (vm (ii (I W (x1-0))) ?_)))))
   obtain⟨⟨g3,g4⟩,E⟩:=ar E
   refine ye (QR (e:=(.int .u8)) (z0:=0) aN Tryz.underlying3 z H z z g3 a_ (fun v3 w H=>vm sn (vr (bJ (lP bI z) (v':=ii 0) z) ?_)))
   obtain⟨⟨g5,g6⟩,E⟩:=ar E
   have p1:0≤(0:Int).toNat:=a_
   have p2:(0:Int).toNat≤(List.replicate (I W (x1-0)).toNat (0:Int)).length:=a_
   refine vr (fU aN (ao (H.Gt 0 z)) z z g5 g6) (va (bz v3 0 ((0:Int).toNat) 1) (nl (rg (vm (bz v3 0 ((0:Int).toNat) 1) (va (bz v3 0 ((0:Int).toNat) 1) (nl (aj ?_)))))))
   have H:=H.DI 0 z p2
   exact⟨.inl z,bz v3 0 ((0:Int).toNat) 1,tk0 z ⟨ba z (ad ai) z,k30,_,_,aI _,E,z,H⟩⟩
  refine aA (ab (rg (vm sn (va sn (nl (aj ?_))))))
  have H:=H.bB (.int .u8) 5
  exact⟨.inl z,sn,tk0 z ⟨ba z (ad ai) z,k30,_,_,aI _,E,z,H⟩⟩
 rintro _ w ⟨k2,l1,v2,hk3,E,hv_,H⟩
 have hv_:=hv_.symm
 subst hv_
 unfold db.j1 at E
 refine va v2 (nl (ae (rg (vm v0_ (vr (aY nF (H.rd h0) z) (vm (ii 0) (nl (aG ?_))))))))
 refine bx (fun kk t w=>∃(l2:List Int)(x4:Int)(v4:Value)(t3:Fr),kk≤k2∧db.l1 kk a0 l2 x4=some r∧t=aU t3 [(2,sn),(6,v4),(25,v0_),(26,ii (a0.length:Int)),(27,ii x4),(1000000,undef)]∧St no w0 w [.own (.int .u8) 5 v4 l2]) k2 ?_ ?_
 ·exact⟨_,_,_,_,aI _,E,aD ⟨z,z,z,z,z,z,acu⟩,H⟩
 rintro kk t w ⟨l2,x4,v4,t3,hk4,E,rfl,H⟩
 obtain⟨k3,rfl⟩|rfl:=ks kk
 rotate_left
 ·cases E
 rw[db.l1]at E
 refine rg (vr (aZ z z) (nl (ae ?_)))
 refine aE E z (fun c5 E=>?_) (fun c5 E=>?_)
 ·refine aA (ab (ae (aG (rg ?_))))
  obtain⟨⟨g7,g8⟩,E⟩:=ar E
  refine vr (bo ko (H.rd h0) z z g7 g8) (ye (uN bQ H h0 g7 g8 z (fun v5 h2=>va v5 (nl (aH (vm v4 (vm v5 ?_)))))))
  obtain⟨g9,E⟩:=ar E
  refine ye (dZ aN H 0 z (H.rd h2) z z a_ u_ (fun v6 w H=>va v6 (aK (aR (ab (aH (vr (aO z z) (vm (ii (I W (x4+1))) (aK ?_)))))))))
  exact⟨k3,bL _,_,_,_,_,bK hk4,E,aD ⟨z,z,z,z,z,z,acu⟩,H⟩
 refine bt (aM (aM (bu (ab (rg (vm v4 (va v4 (nl (aj ?_)))))))))
 cases E
 exact⟨.inl z,_,tk0 z ⟨aB z (ad ai),_,z,H.bA 0 z⟩⟩
def oM.f(k:Nat)(a0:List (List Int)):Option (List Int):=(db.f k a0).bind fun x1=>some x1
theorem oM.calls{a0:List (List Int)}{r:List Int}(h0:Rd (.sl (.of (.int .u8))) w0 (Ol no w0) v0_ a0)(E:oM.f k a0=some r):
 Calls aa 316 #[v0_] w0 fun e w'=>∃(u0:Value),e= .returned (u0)∧St no w0 w' [.own (.int .u8) 5 u0 r]:=by
 have H:=St.nil no w0
 unfold oM.f at E
 refine aP (N:=5) (args:=[v0_]) Tryz.func316 z z j_ ?_
 refine rg (va sn (nl (rg (vm v0_ ?_))))
 refine ye (YM HS H E (fun _ h=>db.calls (H.arg (H.rd h0)) h) (fun x1 E v3 w H=>va v3 (nl (aj ?_))))
 cases E
 exact⟨.inl z,_,tk0 z ⟨aB z (ad ai),_,z,H.bA 0 z⟩⟩
def eK.j0(l0r:List (List Int)→Int→List (Int)→Int→Option ((Int×Int×List Int)×Bool))(k:Nat)(a0:List (List Int))(x9:Int):Option ((Int×Int×List Int)×Bool):=bif decide (300<(a0.length:Int))then(some ((0,0,([]:List Int)),false))else(bif decide (300<x9)then(some ((0,0,([]:List Int)),false))else(l0r a0 x9 ([]:List Int) 0))
def eK.l0:Nat→List (List Int)→Int→List (Int)→Int→Option ((Int×Int×List Int)×Bool)
 |0,_,_,_,_=>none
 |k+1,a0,x9,l1,x1=>bif decide (x1<(a0.length:Int))then(an (decide ((0:Int)≤x1∧x1<(a0.length:Int))) (bif !decide (((at_ [] a0 x1).length:Int)=x9)then(some ((0,0,([]:List Int)),false))else(an (decide ((l1.length+(at_ [] a0 x1).length)*1≤140737488355328)) (eK.l0 k a0 x9 (l1++at_ [] a0 x1) (I W (x1+1))))))else(some (((a0.length:Int),x9,l1),true))
def eK.f(k:Nat)(a0:List (List Int)):Option ((Int×Int×List Int)×Bool):=bif decide (0<(a0.length:Int))then(an (decide ((0:Int)≤0∧0<(a0.length:Int))) (eK.j0 (eK.l0 k) k a0 ((at_ [] a0 0).length:Int)))else(eK.j0 (eK.l0 k) k a0 0)
theorem eK.calls{a0:List (List Int)}{r:(Int×Int×List Int)×Bool}(h0:Rd (.sl (.of (.int .u8))) w0 (Ol no w0) v0_ a0)(E:eK.f k a0=some r):
 Calls aa 317 #[v0_] w0 fun e w'=>∃(u0_2:Value),e= .returned (.tuple #[.agg #[ii r.1.1,ii r.1.2.1,u0_2],.bool r.2])∧St no w0 w' [.own (.int .u8) 5 u0_2 r.1.2.2]:=by
 have H:=St.nil no w0
 unfold eK.f at E
 refine aP (N:=46) (args:=[v0_]) Tryz.func317 z z j_ ?_
 refine rg (ye (cr ra H (fun b1 w H=>va (.bool false) (nl (rg (vm v0_ (vr (aY nF (H.rd h0) z) (vr (cf (cs:=[ii (a0.length:Int),ii 0,sn]) pb z) (ye (cr ra H (fun b2 w H=>s_ (cy lA H 1 z z z z z z (fun w H=>nl ?_)))))))))))))
 refine cA (fun t w=>∃(k11:Nat)(x9:Int)(t1:Fr),k11≤k∧eK.j0 (eK.l0 k11) k11 a0 x9=some r∧t=aU t1 [(0,v0_),(2,pt b1),(3,.bool false),(4,pt b2),(1000000,undef)]∧St no w0 w [.blk b1 #[ii 0,ii 0,sn] 88,.blk b2 #[ii (a0.length:Int),ii x9,sn] 88]) ?_ ?_
 ·refine rg (vr (az mq z) (vr (av bf z (ak (H.Gt 1 z) z)) (vr (dy z z) (nl ?_))))
  refine aE E z (fun c1 E=>?_) (fun c1 E=>?_)
  ·refine aH (vm v0_ ?_)
   obtain⟨⟨g1,g2⟩,E⟩:=ar E
   refine vr (bo ko (H.rd h0) z z g1 g2) (ye (uN bQ H h0 g1 g2 z (fun v1 h1=>vr (aY bI (H.rd h1) z) (vr (az cS z) (s_ (cQ gJ H 1 z z z z z (fun w H=>aK ?_)))))))
   exact⟨k,_,_,aI _,E,aD ⟨z,z,z,z,z,acu⟩,H⟩
  refine aA ?_
  exact⟨k,_,_,aI _,E,aD ⟨z,z,z,z,z,acu⟩,H⟩
 rintro t w ⟨k11,x9,t1,hk1,E,rfl,H⟩
 unfold eK.j0 at E
 refine ae (rg (vr (az mq z) (vr (av bf z (ak (H.Gt 1 z) z)) (vr (dy z z) (vm (.bool (decide (300<(a0.length:Int)))) ?_)))))
 rcases bR (decide (300<(a0.length:Int)))with c2|c2
 ·have E:=iT c2 E
  refine ow c2 z (ow c2 z (ow c2 z (vr (pT (.bool true) z z c2) (nl (cl z (rg (vr (cf (cs:=[ii 0,ii 0,sn]) pb z) (s_ (cy lA H 0 z z z z z z (fun w H=>va (.bool false) (nl (aj ?_))))))))))))
  have H:=H.bB (.int .u8) 5
  cases E
  exact(aL ⟨.inl z,_,tk0 z ⟨aB z (dL z jD (eG (n:=3) (H.Gt 0 z) z) z (ad ai)),_,z,H.bA 2 z⟩⟩)
 have E:=iF c2 E
 refine oo c2 z (az cS z) (oo c2 z (av bf z (ak (H.Gt 1 z) z)) (oo c2 z (dy z z) (vr (pF (.bool (decide (300<x9))) z z c2) (nl ?_))))
 refine aE E z (fun c3 E=>?_) (fun c3 E=>?_)
 ·refine rg (vr (cf (cs:=[ii 0,ii 0,sn]) pb z) (s_ (cy lA H 0 z z z z z z (fun w H=>va (.bool false) (nl (aj ?_))))))
  have H:=H.bB (.int .u8) 5
  cases E
  exact(aL ⟨.inl z,_,tk0 z ⟨aB z (dL z jD (eG (n:=3) (H.Gt 0 z) z) z (ad ai)),_,z,H.bA 2 z⟩⟩)
 refine aA (ab (ae (rg (vm v0_ (vr (aY nF (H.rd h0) z) (vm (ii 0) (nl (aG ?_))))))))
 have H:=H.bB (.int .u8) 5
 refine bx (fun kk t w=>∃(l1:List Int)(x1:Int)(v2:Value)(t2:Fr),kk≤k11∧eK.l0 kk a0 x9 l1 x1=some r∧t=aU t2 [(2,pt b1),(3,.bool false),(4,pt b2),(27,v0_),(28,ii (a0.length:Int)),(29,ii x1),(1000000,undef)]∧St no w0 w [.blk b1 #[ii 0,ii 0,sn] 88,.blk b2 #[ii (a0.length:Int),ii x9,v2] 88,.own (.int .u8) 5 v2 l1]) k11 ?_ ?_
 ·exact⟨_,_,_,_,aI _,E,aD ⟨z,z,z,z,z,z,z,acu⟩,H⟩
 rintro kk t w ⟨l1,x1,v2,t2,hk2,E,rfl,H⟩
 obtain⟨k1,rfl⟩|rfl:=ks kk
 rotate_left
 ·cases E
 rw[eK.l0]at E
 refine rg (vr (aZ z z) (nl (ae ?_)))
 refine aE E z (fun c4 E=>?_) (fun c4 E=>?_)
 ·refine aA (ab (ae (aG (rg ?_))))
  obtain⟨⟨g3,g4⟩,E⟩:=ar E
  refine vr (bo ko (H.rd h0) z z g3 g4) (ye (uN bQ H h0 g3 g4 z (fun v3 h2=>va v3 (nl (ae (rg (vm v3 (vr (aY bI (H.rd h2) z) (vr (az cS z) (vr (av bf z (ak (H.Gt 1 z) z)) (vr (cx z z) (nl ?_))))))))))))
  refine aE E z (fun c5 E=>?_) (fun c5 E=>?_)
  ·refine rg (vr (cf (cs:=[ii 0,ii 0,sn]) pb z) (s_ (cy lA H 0 z z z z z z (fun w H=>va (.bool false) (nl (aj ?_))))))
   have H:=H.bB (.int .u8) 5
   cases E
   exact(aL (bG (aL (aL (bG (aL ⟨.inl z,_,tk0 z ⟨aB z (dL z jD (eG (n:=3) (H.Gt 0 z) z) z (ad ai)),_,z,H.bA 3 z⟩⟩))))))
  refine aA (ab (aH (vr (az gI z) (vr (av bQ z (ak (H.Gt 1 z) z)) (vm v3 ?_)))))
  obtain⟨g5,E⟩:=ar E
  refine ye (dZ aN H 2 z (H.rd h2) z z a_ u_ (fun v4 w H=>(vr (az gI z) ?_)))
  obtain⟨p1,n1,c6,rfl⟩:=bX (H.Gt 2 z)
  refine s_ (cQ pA H 1 z z z z z (fun w H=>aK (aR (ab (aH (vr (aO z z) (vm (ii (I W (x1+1))) (aK ?_))))))))
  exact⟨k1,bL _,_,_,_,_,bK hk2,E,aD ⟨z,z,z,z,z,z,z,acu⟩,H⟩
 refine bt (aM (aM (bu (ab (rg (vr (bp (l:=[ii (a0.length:Int),ii x9,v2]) jD (H.Gt 1 z) z z z) ?_))))))
 obtain⟨p2,n2,c7,rfl⟩:=bX (H.Gt 2 z)
 refine s_ (cy lA H 0 z z z z z z (fun w H=>va (.bool true) (nl (aj ?_))))
 cases E
 exact⟨.inl z,_,tk0 z ⟨aB z (dL z jD (eG (n:=3) (H.Gt 0 z) z) z (ad ai)),_,z,H.bA 2 z⟩⟩
def mM.f(a0:Int):Option (Bool):=bif decide (0≤a0)then(some (decide (a0≤300)))else(some false)
theorem mM.calls{a0:Int}{r:Bool}(E:mM.f a0=some r):
 Calls aa 378 #[ii a0] w0 fun e w'=>e= .returned (.bool r)∧St no w0 w' []:=by
 have H:=St.nil no w0
 unfold mM.f at E
 refine aP (N:=9) (args:=[ii a0]) Tryz.func378 z z j_ ?_
 refine rg (va (.bool false) (nl (rg (vm (ii a0) (vr (dq z z) (vm (.bool (decide (0≤a0))) ?_))))))
 rcases bR (decide (0≤a0))with c1|c1
 ·have E:=iT c1 E
  refine oo c1 z (mv (ii a0) z) (oo c1 z (gS z z) (vr (pT (.bool (decide (a0≤300))) z z c1) (va (.bool (decide (a0≤300))) (nl (aj ?_)))))
  cases E
  exact⟨.inl z,_,tk0 z ⟨aB z (ad ai),z,H.bs⟩⟩
 have E:=iF c1 E
 refine ow c1 z (ow c1 z (vr (pF (.bool false) z z c1) (va (.bool false) (nl (aj ?_)))))
 cases E
 exact⟨.inl z,_,tk0 z ⟨aB z (ad ai),z,H.bs⟩⟩
def nY.f(a0:Int×Int×List Int):Option (Bool):=(mM.f a0.1).bind fun x2=>bif x2 then((mM.f a0.2.1).bind fun x5=>bif x5 then(some (decide ((a0.2.2.length:Int)=I W (a0.1*a0.2.1))))else(some false))else(some false)
theorem nY.calls{a0:Int×Int×List Int}{r:Bool}(h0_2:Rd (.of (.int .u8)) w0 (Ol no w0) v0_2_ a0.2.2)(E:nY.f a0=some r):
 Calls aa 371 #[.agg #[ii a0.1,ii a0.2.1,v0_2_]] w0 fun e w'=>e= .returned (.bool r)∧St no w0 w' []:=by
 have H:=St.nil no w0
 unfold nY.f at E
 refine aP (N:=25) (args:=[.agg #[ii a0.1,ii a0.2.1,v0_2_]]) Tryz.func371 z z j_ ?_
 refine rg (ye (bc (cs:=#[ii a0.1,ii a0.2.1,v0_2_]) H z (fun b1 w H=>va (.bool false) (nl (rg (va (.func (.func 378) #[] #[]) (nl (rg (vm (.func (.func 378) #[] #[]) (vr (az mq z) (vr (av bf z (ak (H.Gt 0 z) z)) ?_)))))))))))
 obtain⟨x2,E3,E⟩:=ay E
 refine ye (kZ z zA z ((mM.calls E3).mono ?_))
 rintro _ w ⟨rfl,K⟩
 have H:=H.app K
 refine⟨_,z,(vm (.bool x2) ?_)⟩
 rcases bR (x2)with c4|c4
 ·have E:=iT c4 E
  refine oo c4 z (mv (.func (.func 378) #[] #[]) z) (oo c4 z (az cS z) (oo c4 z (av bf z (ak (H.Gt 0 z) z)) ?_))
  obtain⟨x5,E6,E⟩:=ay E
  refine dP z c4 z (kZ z zA z ((mM.calls E6).mono ?_))
  rintro _ w ⟨rfl,K⟩
  have H:=H.app K
  refine⟨_,z,vr (pT (.bool x5) z z c4) (vm (.bool x5) ?_)⟩
  rcases bR (x5)with c7|c7
  ·have E:=iT c7 E
   refine oo c7 z (az gI z) (oo c7 z (av bQ z (ak (H.Gt 0 z) z)) (oo c7 z (aY bI (H.rd h0_2) z) (oo c7 z (az mq z) (oo c7 z (av bf z (ak (H.Gt 0 z) z)) (oo c7 z (az cS z) (oo c7 z (av bf z (ak (H.Gt 0 z) z)) (oo c7 z (cF z z) (oo c7 z (cg z z) (vr (pT (.bool (decide ((a0.2.2.length:Int)=I W (a0.1*a0.2.1)))) z z c7) (va (.bool (decide ((a0.2.2.length:Int)=I W (a0.1*a0.2.1)))) (nl (aj ?_))))))))))))
   cases E
   exact⟨.inl z,_,tk0 z ⟨aB z (ad ai),z,H.bs⟩⟩
  have E:=iF c7 E
  refine ow c7 z (ow c7 z (ow c7 z (ow c7 z (ow c7 z (ow c7 z (ow c7 z (ow c7 z (ow c7 z (vr (pF (.bool false) z z c7) (va (.bool false) (nl (aj ?_))))))))))))
  cases E
  exact⟨.inl z,_,tk0 z ⟨aB z (ad ai),z,H.bs⟩⟩
 have E:=iF c4 E
 refine ow c4 z (ow c4 z (ow c4 z (ow c4 z (vr (pF (.bool false) z z c4) (vm (.bool false) (ow z z (ow z z (ow z z (ow z z (ow z z (ow z z (ow z z (ow z z (ow z z (vr (pF (.bool false) z z z) (va (.bool false) (nl (aj ?_))))))))))))))))))
 cases E
 exact⟨.inl z,_,tk0 z ⟨aB z (ad ai),z,H.bs⟩⟩
end Go.Proofs.YtmhkpafkadijgaaGreatDoor.Gw
