/- A part of the proof of Rows.PlayDecodesCardSaid; the conditions are that card's own. -/
import Derived.Test.YtmhkpafkadijgaaGreatDoorQ3
import Derived.Test.YtmhkpafkadijgaaGreatDoorQ12
set_option linter.all false
set_option maxRecDepth 100000
set_option maxHeartbeats 4000000
namespace Go.Proofs.YtmhkpafkadijgaaGreatDoor.Gw
open Go.IntKind renaming wrap→I,i64→W
open Go Go.RowKit
variable[de]
open Go.IntKind (i8 i16 i32 i64 u8 u16 u32 u64)
open Tryz hiding prog
open Tryz renaming prog → aa
variable{w0:World}{k:Nat}{F_:FD}{v0_ v0_4_ v0_5_ v1_ v2_:Value}
def nX.f(a0 a1:Int):Option (Int×Int):=(rE.f a0 a1).bind fun x1=>some (x1.1,x1.2)
theorem nX.calls{a0 a1:Int}{r:Int×Int}(E:nX.f a0 a1=some r):
 Calls aa 333 #[.int .u64 a0,.int .u64 a1] w0 fun e w'=>e= .returned (.tuple #[.int .u64 r.1,.int .u64 r.2])∧St no w0 w' []:=by
 have H:=St.nil no w0
 unfold nX.f at E
 refine Zb func333 ?_
 refine A_ ?_
 refine ye (E9 HW H E (fun _=>rE.calls) (fun x1 E w H=>A_ ?_))
 cases E
 exact⟨.inl z,_,tk0 z ⟨aB z (ad (ad ai)),z,H.bs⟩⟩
def iy.l0:Nat→List (Int)→Int→Option (List Int)
 |0,_,_=>none
 |k+1,l1,x1=>bif decide (x1<(l1.length:Int))then(an (decide ((0:Int)≤x1∧x1≤(l1.length:Int))) (an (decide ((0:Int)≤x1∧x1≤(l1.length:Int))) (iy.l0 k (cB x1.toNat (l1.length-x1.toNat) ((l1.take x1.toNat).drop 0) l1) (I W (x1+((min ((l1.take x1.toNat).drop 0).length (l1.length-x1.toNat):Nat):Int))))))else(some l1)
def iy.f(k:Nat)(a0:List Int)(a1:Int):Option (List Int):=bif decide (a1<0)then(none)else((nX.f (u64.wrap (a0.length:Int)) (u64.wrap a1)).bind fun x3=>bif decide (0<x3.1)then(none)else(bif decide (9223372036854775807<x3.2)then(none)else(an (decide ((0:Int)≤I W x3.2∧I W x3.2≤I W x3.2∧I W x3.2≤140737488355328)) (iy.l0 k (cB 0 (List.replicate (I W x3.2).toNat (0:Int)).length a0 (List.replicate (I W x3.2).toNat (0:Int))) ((min a0.length (List.replicate (I W x3.2).toNat (0:Int)).length:Nat):Int)))))
theorem iy.calls{a0:List Int}{a1:Int}{r:List Int}(h0:Rd (.of (.int .u8)) w0 (Ol no w0) v0_ a0)(E:iy.f k a0 a1=some r):
 Calls aa 301 #[v0_,ii a1] w0 fun e w'=>∃(u0:Value),e= .returned (u0)∧St no w0 w' [.own (.int .u8) 5 u0 r]:=by
 have H:=St.nil no w0
 unfold iy.f at E
 refine aP (N:=48) (args:=[v0_,ii a1]) Tryz.func301 z z j_ ?_
 refine rg (va sn (nl (ae (rg (vm (ii a1) (vr (aZ z z) (nl ?_)))))))
 refine aE E z (fun c2 E=>?_) (fun c2 E=>?_)
 ·refine aH ?_
  cases E
 refine aA (ab (rg (vm v0_ (vr (aY bI (H.rd h0) z) (vr (cD z Tryz.underlying3 Tryz.underlying167) (vm (ii a1) (vr (cD z Tryz.underlying3 Tryz.underlying167) ?_)))))))
 refine ye (E9 HQ H E (fun _ h=>nX.calls h) (fun x3 E w H=>vr cz (vr (aX z z) (vr (aX z z) (va (.int .u64 x3.1) (va (.int .u64 x3.2) (nl (ae (rg (vm (.int .u64 x3.1) (vr (dy z z) (vm (.bool (decide (0<x3.1))) ?_))))))))))))
 rcases bR (decide (0<x3.1))with c7|c7
 ·have E:=iT c7 E
  refine ow c7 z (ow c7 z (vr (pT (.bool true) z z c7) (nl (cl z (aH ?_)))))
  cases E
 have E:=iF c7 E
 refine oo c7 z (mv (.int .u64 x3.2) z) (oo c7 z (dy z z) (vr (pF (.bool (decide (9223372036854775807<x3.2))) z z c7) (nl ?_)))
 refine aE E z (fun c8 E=>?_) (fun c8 E=>?_)
 ·refine aH ?_
  cases E
 refine aA (ab (rg (vm (.int .u64 x3.2) (vr (cD z Tryz.underlying167 Tryz.underlying3) ?_))))
 obtain⟨⟨g1,g2,g3⟩,E⟩:=ar E
 refine ye (ee (e:=(.int .u8)) (z0:=0) aN z H z z g1 g2 a_ a_ (fun v9 w H=>va v9 (nl (rg (vm v9 (vm v0_ (ye (uL aN H 0 z (H.rd h0) z z (fun w H=>va (ii ((min a0.length (List.replicate (I W x3.2).toNat (0:Int)).length:Nat):Int)) (nl (ae (aG ?_))))))))))))
 refine bx (fun kk t w=>∃(l1:List Int)(x1:Int)(t1:Fr),kk≤k∧iy.l0 kk l1 x1=some r∧t=aU t1 [(4,sn),(7,v9),(8,ii x1),(1000000,undef)]∧St no w0 w [.own (.int .u8) 5 v9 l1]) k ?_ ?_
 ·exact⟨_,_,_,aI _,E,aD ⟨z,z,z,z,acu⟩,H⟩
 rintro kk t w ⟨l1,x1,t1,hk1,E,rfl,H⟩
 obtain⟨k1,rfl⟩|rfl:=ks kk
 rotate_left
 ·cases E
 rw[iy.l0]at E
 refine ae (rg (vm (ii x1) (vm v9 (vr (aY bI (ao (H.Gt 0 z)) z) (vr (aZ z z) (nl ?_))))))
 refine aE E z (fun c1 E=>?_) (fun c1 E=>?_)
 ·refine aA (ab (aG (eZ (ds:=[]) (fun w=>∃l':List Int,l'.length=l1.length∧St no w0 w [.own (.int .u8) 5 v9 l']) bZ H z z ?_)))
  have H:=H.drew
  refine wm 0 z ⟨_,z,H⟩ (ii x1) (wm 1 z ⟨_,z,H⟩ v9 (wm 2 z ⟨_,z,H⟩ (ii x1) ?_))
  obtain⟨⟨g4,g5⟩,E⟩:=ar E
  have p1:x1.toNat≤l1.length:=a_
  have p2:l1.length≤l1.length:=a_
  refine wz 3 z ⟨_,z,H⟩ (fun w ⟨l',e',H⟩=>OP e' aN (ao (H.Gt 0 z)) z z g4 g5) (wm 4 z ⟨_,z,H⟩ v9 (wm 5 z ⟨_,z,H⟩ (ii x1) ?_))
  obtain⟨⟨g6,g7⟩,E⟩:=ar E
  have p3:0≤x1.toNat:=a_
  have p4:x1.toNat≤l1.length:=a_
  refine wz 6 z ⟨_,z,H⟩ (fun w ⟨l',e',H⟩=>ON e' aN (ao (H.Gt 0 z)) z z g6 g7) (wo 7 z (QZ a_ (by simpa using p2) aN H 0 z (Rd.bz (ao (H.Gt 0 z)) p3 p4) z z (fun w H=>⟨fun _=>⟨_,mj _ a_,H.ag [0] z z⟩,wg 8 z ⟨_,mj _ a_,H.ag [0] z z⟩ (aO z z) (wg 9 z ⟨_,mj _ a_,H.ag [0] z z⟩ (sg (ii (I W (x1+((min ((l1.take x1.toNat).drop 0).length (l1.length-x1.toNat):Nat):Int)))) z) (wd (aR ?_)))⟩)))
  exact⟨k1,bL _,_,_,_,bK hk1,E,aD ⟨z,z,z,z,acu⟩,H⟩
 refine bt (aM (aM (bu (ab (rg (vm v9 (va v9 (nl (aj ?_)))))))))
 cases E
 exact⟨.inl z,_,tk0 z ⟨aB z (ad ai),_,z,H.bA 0 z⟩⟩
def gn.f(k:Nat)(a1:Int)(a2:List Int):Option (List Int):=(iy.f k ([a1]) (a2.length:Int)).bind fun x2=>(jJ.f x2 a2).bind fun x5=>some x5
theorem gn.calls{a1:Int}{a2:List Int}{r:List Int}(hf:(Rs.ah F_).inv w0)(h2:Zg F_ w0 v2_ a2)(E:gn.f k a1 a2=some r):
 Calls aa 255 #[pt F_.p,iu a1,v2_] w0 fun e w'=>∃(u0:Value),e= .returned (u0)∧St (Rs.ah F_).fp w0 w' [.ah F_,Y9 u0 r]:=by
 have H:=St.start hf
 unfold gn.f at E
 refine Zb func255 ?_
 refine A_ ?_
 refine ye (cL (e:=(.int .u8)) (l:=[a1]) aN H z f_ ⟨z,z,acu⟩ f_ (fun v1 w H=>A_ ?_))
 refine ye (YM Hz H E (fun _=>iy.calls (H.own 1 z (ao (H.Gt 1 z)))) (fun x2 E v4 w H=>A_ ?_))
 refine ye (YN vp H 0 E z (fun _=>jJ.calls (H.Gt 0 z) (H.cb 2 0 z z z (ao (H.Gt 2 z))) (H.cj 0 z (H.rd h2))) (fun x5 E v7 w H=>A_ ?_))
 cases E
 exact⟨.inl z,_,tk0 z ⟨aB z (ad ai),_,z,H.bN 0 3 z z z⟩⟩
def cU.j0(k:Nat)(l1 l2:List Int):Option (List Int×List Int×Bool):=(cX.f k l2).bind fun x1=>some (x1,l1,true)
def cU.j1(l0r:List Int→Int→(Int×Bool)→List (Int)→List (Int)→Option (List Int×List Int×Bool))(k:Nat)(a2:List Int)(x1:Int)(x7:Int×Bool)(l1 l2:List Int)(x2:Int)(l3:List Int):Option (List Int×List Int×Bool):=(eN.f k l3).bind fun x3=>an (decide ((0:Int)≤I W (x3+1)∧I W (x3+1)≤(l3.length:Int))) (l0r a2 x1 x7 (l3.take ((I W (x3+1)).toNat)) (l2.set (I W ((I W ((l1.length:Int)-1))-x1)).toNat x2))
mutual
def cU.l0:Nat→List Int→Int→(Int×Bool)→List (Int)→List (Int)→Option (List Int×List Int×Bool)
 |0,_,_,_,_,_=>none
 |k+1,a2,x1,x7,l1,l2=>bif decide (I W ((l1.length:Int)-1)<x1)then(cU.j0 k l1 l2)else(an (decide ((0:Int)≤I W ((l1.length:Int)-1)∧I W ((l1.length:Int)-1)<(l1.length:Int))) ((gp.f (at_ 0 l1 (I W ((l1.length:Int)-1))) x7.1).bind fun x2=>an (decide ((0:Int)≤I W ((I W ((l1.length:Int)-1))-x1)∧I W ((I W ((l1.length:Int)-1))-x1)<(l2.length:Int))) (an (decide ((0:Int)≤I W (x1+1)∧I W (x1+1)≤(a2.length:Int))) ((gn.f k x2 ((a2.take ((I W (x1+1)).toNat)).drop 0)).bind fun x3=>cU.l1 k a2 x1 x7 l1 l2 x2 x3 l1 0))))
def cU.l1:Nat→List Int→Int→(Int×Bool)→List (Int)→List (Int)→Int→List Int→List (Int)→Int→Option (List Int×List Int×Bool)
 |0,_,_,_,_,_,_,_,_,_=>none
 |k+1,a2,x1,x7,l1,l2,x2,x3,l3,x4=>bif decide (x4<(x3.length:Int))then(an (decide ((0:Int)≤x4∧x4<(x3.length:Int))) (an (decide ((0:Int)≤I W (I W ((I W ((l1.length:Int)-1))-x1)+x4)∧I W (I W ((I W ((l1.length:Int)-1))-x1)+x4)<(l3.length:Int))) (an (decide ((0:Int)≤I W (I W ((I W ((l1.length:Int)-1))-x1)+x4)∧I W (I W ((I W ((l1.length:Int)-1))-x1)+x4)<(l3.length:Int))) (cU.l1 k a2 x1 x7 l1 l2 x2 x3 (l3.set (I W (I W ((I W ((l1.length:Int)-1))-x1)+x4)).toNat (bits .xor .u8 (at_ 0 l3 (I W (I W ((I W ((l1.length:Int)-1))-x1)+x4))) (at_ 0 x3 x4))) (I W (x4+1))))))else(cU.j1 (cU.l0 k) k a2 x1 x7 l1 l2 x2 l3)
end
def cU.f(k:Nat)(a1 a2:List Int):Option (List Int×List Int×Bool):=(eN.f k a2).bind fun x1=>bif decide (x1<0)then(some (([]:List Int),([]:List Int),false))else(an (decide ((0:Int)≤x1∧x1<(a2.length:Int))) ((fN.f (at_ 0 a2 x1)).bind fun x7=>(cX.f k a1).bind fun x9=>an (decide ((0:Int)≤max2 (I W ((x9.length:Int)-x1)) 0∧max2 (I W ((x9.length:Int)-x1)) 0≤max2 (I W ((x9.length:Int)-x1)) 0∧max2 (I W ((x9.length:Int)-x1)) 0≤140737488355328)) (cU.l0 k a2 x1 x7 x9 (List.replicate (max2 (I W ((x9.length:Int)-x1)) 0).toNat (0:Int)))))
theorem cU.calls{a1 a2:List Int}{r:List Int×List Int×Bool}(hf:(Rs.ah F_).inv w0)(h1:Zg F_ w0 v1_ a1)(h2:Zg F_ w0 v2_ a2)(E:cU.f k a1 a2=some r):
 Calls aa 209 #[pt F_.p,v1_,v2_] w0 fun e w'=>∃(u0 u1:Value),e= .returned (.tuple #[u0,u1,.bool r.2.2])∧St (Rs.ah F_).fp w0 w' [.ah F_,Y9 u0 r.1,Y9 u1 r.2.1]:=by
 have H:=St.start hf
 unfold cU.f at E
 refine Zb func209 ?_
 refine A_ ?_
 refine xR (A_ ?_)
 refine ye (E9 qW H E (fun _=>eN.calls (H.arg (H.rd h2))) (fun x1 E w H=>A_ ?_))
 refine aE E z ?_ ?_<;>intro c4 E<;>refine A_ ?_
 ·have H:=H.bB (.int .u8) 5
  have H:=H.bB (.int .u8) 5
  cases E
  exact(aL (xl ⟨.inl z,_,tk0 z ⟨aB z (ad (ad (ad ai))),_,_,z,H.fJ 0 1 2 z z z z z z⟩⟩))
 obtain⟨⟨g5,g6⟩,E⟩:=ar E
 refine A_ ?_
 refine ye (YL qX H 0 E z (fun _=>fN.calls (H.Gt 0 z)) (fun x7 E w H=>A_ ?_))
 refine ye (YM eS H E (fun _=>cX.calls (H.arg (H.rd h1))) (fun x9 E v1 w H=>A_ ?_))
 obtain⟨⟨g1,g2,g3⟩,E⟩:=ar E
 refine ye (ee (e:=(.int .u8)) (z0:=0) aN z H z z g1 g2 a_ a_ (fun v2 w H=>A_ ?_))
 refine xP (ab ?_)
 refine cA (fun t w=>∃(k1:Nat)(l1 l2:List Int)(v3:Value)(t1:Fr),k1≤k∧cU.j0 k1 l1 l2=some r∧t=aU t1 [(6,sn),(7,sn),(8,.bool false),(12,v3),(13,v2),Zc]∧St (Rs.ah F_).fp w0 w [.ah F_,Y9 v3 l1,Y9 v2 l2]) ?_ ?_
 ·refine aG ?_
  refine bx (fun kk t w=>∃(l3 l4:List Int)(v4:Value)(t2:Fr),kk≤k∧cU.l0 kk a2 x1 x7 l3 l4=some r∧t=aU t2 [(0,pt F_.p),(2,v2_),(6,sn),(7,sn),(8,.bool false),(9,ii x1),(10,iu x7.1),(12,v4),(13,v2),Zc]∧St (Rs.ah F_).fp w0 w [.ah F_,Y9 v4 l3,Y9 v2 l4]) k Ze ?_
  rintro kk t w ⟨l3,l4,v4,t2,hk1,E,rfl,H⟩
  obtain⟨k2,rfl⟩:=Zd kk
  rw[cU.l0]at E
  refine A_ ?_
  refine aE E z ?_ ?_<;>intro c1 E
  ·refine bt (aM (qs z (A_ ?_)))
   exact⟨k2,_,_,_,_,a_,E,Za,H⟩
  refine A_ ?_
  obtain⟨⟨g4,g7⟩,E⟩:=ar E
  refine A_ ?_
  refine ye (YL pg H 0 E z (fun _=>gp.calls (H.Gt 0 z)) (fun x2 E w H=>A_ ?_))
  obtain⟨⟨g8,g9⟩,E⟩:=ar E
  refine A_ ?_
  refine s_ (dc dB H 2 z g8 g9 z z (fun w H=>nl ?_))
  refine cA (fun t w=>∃(k3:Nat)(l5:List Int)(t3:Fr),k3≤k2∧cU.j1 (cU.l0 k3) k3 a2 x1 x7 l3 l4 x2 l5=some r∧t=aU t3 [(0,pt F_.p),(2,v2_),(6,sn),(7,sn),(8,.bool false),(9,ii x1),(10,iu x7.1),(12,v4),(13,v2),Zc]∧St (Rs.ah F_).fp w0 w [.ah F_,Y9 v4 l5,Y9 v2 (l4.set (I W ((I W ((l3.length:Int)-1))-x1)).toNat x2)]) ?_ ?_
  ·refine A_ ?_
   obtain⟨⟨g10,g11⟩,E⟩:=ar E
   have p1:0≤(I W (x1+1)).toNat:=a_
   have p2:(I W (x1+1)).toNat≤a2.length:=a_
   refine vr (fU aN (H.rd h2) z z g10 g11) ?_
   refine ye (YN ph H 0 E z (fun _=>gn.calls (H.Gt 0 z) (H.cj 0 z (Rd.bz (H.rd h2) p1 p2))) (fun x3 E v5 w H=>A_ ?_))
   refine bx (fun kk t w=>∃(l6:List Int)(x4:Int)(t4:Fr),kk≤k2∧cU.l1 kk a2 x1 x7 l3 l4 x2 x3 l6 x4=some r∧t=aU t4 [(0,pt F_.p),(2,v2_),(6,sn),(7,sn),(8,.bool false),(9,ii x1),(10,iu x7.1),(12,v4),(13,v2),(14,ii (I W ((l3.length:Int)-1))),(68,v5),(69,ii (x3.length:Int)),(70,ii x4),Zc]∧St (Rs.ah F_).fp w0 w [.ah F_,Y9 v4 l6,Y9 v2 (l4.set (I W ((I W ((l3.length:Int)-1))-x1)).toNat x2),Y9 v5 x3]) k2 Ze ?_
   rintro kk t w ⟨l6,x4,t4,hk2,E,rfl,H⟩
   obtain⟨k4,rfl⟩:=Zd kk
   rw[cU.l1]at E
   refine A_ ?_
   refine aE E z ?_ ?_<;>intro c2 E<;>refine A_ ?_
   ·obtain⟨⟨g12,g16⟩,E⟩:=ar E
    refine A_ ?_
    obtain⟨⟨g17,g18⟩,E⟩:=ar E
    refine A_ ?_
    obtain⟨⟨g19,g20⟩,E⟩:=ar E
    refine A_ ?_
    refine s_ (dc dB H 1 z g19 g20 z z (fun w H=>A_ ?_))
    exact⟨k4,bL _,_,_,_,bK hk2,E,Za,H⟩
   exact⟨k4,_,_,a_,E,Za,H.Y8 [0,1,2]⟩
  rintro t w ⟨k3,l5,t3,hk3,E,rfl,H⟩
  unfold cU.j1 at E
  refine A_ ?_
  refine ye (E9 qW H E (fun _=>eN.calls (H.own 1 z (ao (H.Gt 1 z)))) (fun x5 E w H=>A_ ?_))
  obtain⟨⟨g21,g22⟩,E⟩:=ar E
  have p3:0≤(I W (x5+1)).toNat:=a_
  have p4:(I W (x5+1)).toNat≤l5.length:=a_
  refine vr (fU aN (ao (H.Gt 1 z)) z z g21 g22) (A_ ?_)
  have H:=H.DI 1 z p4
  exact⟨k3,a_,_,_,_,_,a_,E,Za,H⟩
 rintro t w ⟨k1,l1,l2,v3,t1,hk4,E,rfl,H⟩
 unfold cU.j0 at E
 refine A_ ?_
 refine ye (YM eS H E (fun _=>cX.calls (H.own 2 z (ao (H.Gt 2 z)))) (fun x6 E v6 w H=>A_ ?_))
 cases E
 exact(xl ⟨.inl z,_,tk0 z ⟨aB z (ad (ad (ad ai))),_,_,z,H.fJ 0 3 1 z z z z z z⟩⟩)
def rR.f(k:Nat)(a1 a2:List Int):Option (List Int×Bool):=(cU.f k a1 a2).bind fun x1=>some (x1.2.1,x1.2.2)
theorem rR.calls{a1 a2:List Int}{r:List Int×Bool}(hf:(Rs.ah F_).inv w0)(h1:Zg F_ w0 v1_ a1)(h2:Zg F_ w0 v2_ a2)(E:rR.f k a1 a2=some r):
 Calls aa 160 #[pt F_.p,v1_,v2_] w0 fun e w'=>∃(u0:Value),e= .returned (.tuple #[u0,.bool r.2])∧St (Rs.ah F_).fp w0 w' [.ah F_,Y9 u0 r.1]:=by
 have H:=St.start hf
 unfold rR.f at E
 refine Zb func160 ?_
 refine A_ ?_
 obtain⟨x1,E2,E⟩:=ay E
 refine ye (au zl z ((cU.calls (H.Gt 0 z) (H.cj 0 z (H.rd h1)) (H.cj 0 z (H.rd h2)) E2).mono ?_))
 rintro _ w ⟨v3,v4,rfl,K⟩
 have H:=H.aV 0 z K
 refine⟨_,z,A_ ?_⟩
 cases E
 exact⟨.inl z,_,tk0 z ⟨aB z (ad (ad ai)),_,z,H.bN 0 2 z z z⟩⟩
def iI.l0:Nat→Int→Int→List (Int)→Int→Option (List Int)
 |0,_,_,_,_=>none
 |k+1,a1,a3,l1,x1=>bif decide ((l1.length:Int)=a1)then(some l1)else(an (decide ((l1.length+([x1]).length)*1≤140737488355328)) ((gp.f x1 a3).bind fun x2=>iI.l0 k a1 a3 (l1++([x1])) x2))
def iI.f(k:Nat)(a1 a2 a3:Int):Option (List Int):=an (decide ((0:Int)≤0∧(0:Int)≤a1∧a1≤140737488355328)) (iI.l0 k a1 a3 (List.replicate (0:Int).toNat (0:Int)) a2)
theorem iI.calls{a1 a2 a3:Int}{r:List Int}(hf:(Rs.ah F_).inv w0)(E:iI.f k a1 a2 a3=some r):
 Calls aa 178 #[pt F_.p,ii a1,iu a2,iu a3] w0 fun e w'=>∃(u0:Value),e= .returned (u0)∧St (Rs.ah F_).fp w0 w' [.ah F_,Y9 u0 r]:=by
 have H:=St.start hf
 unfold iI.f at E
 refine Zb func178 ?_
 have H:=H.mk0
 refine rg (ye (bc (cs:=#[ii a1]) H z (fun b1 w H=>A_ ?_)))
 obtain⟨⟨g3,g4,g5⟩,E⟩:=ar E
 refine ye (ee (e:=(.int .u8)) (z0:=0) aN z H z z g3 g4 a_ a_ (fun v2 w H=>ye (cr zI H (fun b6 w H=>?_))))
 obtain⟨p7,n8,c9,rfl⟩:=bX (H.Gt 3 z)
 refine s_ (cQ pA H 4 z z z z z (fun w H=>A_ ?_))
 refine ye (cm 8 [pt F_.p,iu a2,iu a3] Hi func233 z z z z (rg (ye (bc (cs:=#[pt F_.p]) H z (fun b2 w H=>?_)))))
 have H:St _ _ _ [_,_,_,_,_,_]:=H
 refine ye (bc (cs:=#[iu a2]) H z (fun b3 w H=>ye (bc (cs:=#[iu a3]) H z (fun b4 w H=>A_ ?_))))
 refine vr (dt [pt b3,pt b2,pt b4] z) (A_ ?_)
 refine⟨.inl z,.func (.func 284) #[] #[pt b3,pt b2,pt b4],tk0 z ⟨ba z (ad ai) z,nl (aG (je 14 [pt b3,pt b2,pt b4] z func284 z z z z z H 1 z z (fun v1 b5 o1 w hO1 H=>rg (vr (av bC z (ak (H.Gt 6 z) z)) (va (iu a2) (nl (aG ?_)))))))⟩⟩
 refine bx (fun kk t w=>∃(l1:List Int)(x1:Int)(v3:Value)(t1:Fr),kk≤k∧iI.l0 kk a1 a3 l1 x1=some r∧t=aU t1 [(0,.func (.yield b5) #[] #[]),(2,pt b2),(3,pt b4),(5,iu x1),Zc]∧St (Rs.ah F_).fp w0 w [.ah F_,.bO v1,.blk b1 #[ii a1] 3,Y9 v3 l1,.blk b6 #[v3] 22,.blk b2 #[pt F_.p] 111,.blk b3 #[iu a2] 5,.blk b4 #[iu a3] 5,.obj b5 (.loop o1)]) k Ze ?_
 rintro kk t w ⟨l1,x1,v3,t1,hk1,E,rfl,H⟩
 obtain⟨k1,rfl⟩:=Zd kk
 rw[iI.l0]at E
 refine A_ ?_
 refine ye (jf [iu x1] z z H 8 z hO1 z z (A_ ?_))
 refine yB H 8 z hO1 (fun w H=>A_ ?_)
 refine aE E z ?_ ?_<;>intro c1 E
 ·refine bt (aM (qs z (yX H 8 z (fun w H=>A_ ?_))))
  refine⟨.inr z,.tuple #[],tk0 z ⟨ba z ai z,Iw H 8 z (fun w H=>bu (ab (rg (vr (av bQ z (ak (H.Gt 4 z) z)) (va v3 (nl (aj ?_)))))))⟩⟩
  cases E
  exact⟨.inl z,_,gT H 1 z z (fun w H=>⟨aB z (ad ai),_,z,H.bN 0 3 z z z⟩)⟩
 refine A_ ?_
 refine ye (cL (e:=(.int .u8)) (l:=[x1]) aN H z f_ ⟨z,z,acu⟩ f_ (fun v4 w H=>?_))
 obtain⟨g1,E⟩:=ar E
 refine ye (dZ aN H 3 z (ao (H.Gt 9 z)) z z a_ u_ (fun v5 w H=>?_))
 obtain⟨p1,n1,c2,rfl⟩:=bX (H.Gt 3 z)
 refine s_ (cQ pA H 4 z z z z z (fun w H=>aK (aR (yN H 8 z hO1 (fun w H=>A_ ?_)))))
 refine ye (YL pg H 0 E z (fun _=>gp.calls (H.Gt 0 z)) (fun x2 E w H=>A_ ?_))
 exact⟨k1,bL _,_,_,_,_,bK hk1,E,Za,H.Y8 [0,1,2,3,4,5,6,7,8]⟩
def kj.f(a1:Int):Option (Int):=(jK.f 2 a1).bind fun x1=>some x1
theorem kj.calls{a1 r:Int}(hf:(Rs.ah F_).inv w0)(E:kj.f a1=some r):
 Calls aa 179 #[pt F_.p,ii a1] w0 fun e w'=>e= .returned (iu r)∧St (Rs.ah F_).fp w0 w' [.ah F_]:=by
 have H:=St.start hf
 unfold kj.f at E
 refine Zb func179 ?_
 refine A_ ?_
 refine ye (YL vn H 0 E z (fun _=>jK.calls (H.Gt 0 z)) (fun x1 E w H=>A_ ?_))
 cases E
 exact⟨.inl z,_,tk0 z ⟨aB z (ad ai),z,H.bA 0 z⟩⟩
def kl.f(k:Nat)(a1:Int×Int×Int):Option (List Int):=(dh.f (a1.1,a1.2.1,a1.2.2)).bind fun x5=>bif !decide (x5=0)then(some ([]:List Int))else((gf.f (a1.1,a1.2.1,a1.2.2)).bind fun x8=>(kj.f a1.2.2).bind fun x1=>(iI.f k x8 x1 2).bind fun x2=>some x2)
theorem kl.calls{a1:Int×Int×Int}{r:List Int}(hf:(Rs.ah F_).inv w0)(E:kl.f k a1=some r):
 Calls aa 112 #[pt F_.p,.agg #[ii a1.1,ii a1.2.1,ii a1.2.2]] w0 fun e w'=>∃(u0:Value),e= .returned (u0)∧St (Rs.ah F_).fp w0 w' [.ah F_,Y9 u0 r]:=by
 have H:=St.start hf
 unfold kl.f at E
 refine Zb func112 ?_
 refine rg (ye (bc (cs:=#[ii a1.1,ii a1.2.1,ii a1.2.2]) H z (fun b1 w H=>A_ ?_)))
 refine oo z z (bp (l:=[ii a1.1,ii a1.2.1,ii a1.2.2]) cv (H.Gt 1 z) z z z) ?_
 refine dP z z z (E9 jF H E (fun _=>dh.calls) (fun x5 E w H=>A_ ?_))
 refine aE E z ?_ ?_<;>intro c7 E
 ·refine A_ ?_
  have H:=H.bB (.int .u8) 5
  cases E
  exact(aL ⟨.inl z,_,tk0 z ⟨aB z (ad ai),_,z,H.bN 0 2 z z z⟩⟩)
 refine aA (ab (ae (cd (ds:=[]) bZ H z z ?_)))
 have H:=H.drew
 refine wm 0 z H (pt F_.p) (wz 1 z H (fun w H=>bp (l:=[ii a1.1,ii a1.2.1,ii a1.2.2]) cv (H.Gt 1 z) z z z) (B_ [3,4,5] H ?_))
 refine wo 2 z (E9 pf H E (fun _=>gf.calls) (fun x8 E w H=>⟨fun _=>H.Y8 [0,1],?_⟩))
 refine wo 6 z (YL vh H 0 E z (fun _=>kj.calls (H.Gt 0 z)) (fun x1 E w H=>⟨fun _=>H.Y8 [0,1],?_⟩))
 refine wo 7 z (YN G7 H 0 E z (fun _=>iI.calls (H.Gt 0 z)) (fun x2 E v1 w H=>⟨fun _=>H.Y8 [0,1],?_⟩))
 have H:St _ _ _ [_,_,_]:=H
 refine B_ [8] (H.Y8 [0,1]) ?_
 cases E
 exact⟨.inl z,_,tk0 z ⟨aB z (ad ai),_,z,H.bN 0 2 z z z⟩⟩
mutual
def cZ.l0:Nat→List Int→List Int→List (Int)→Int→Option (List Int)
 |0,_,_,_,_=>none
 |k+1,a1,a2,l1,x1=>bif decide (0≤x1)then(an (decide ((0:Int)≤x1∧x1<(a1.length:Int))) (bif !decide (at_ 0 a1 x1=0)then((gn.f k (at_ 0 a1 x1) a2).bind fun x2=>cZ.l1 k a1 a2 x1 x2 l1 0)else(cZ.l0 k a1 a2 l1 (I W (x1-1)))))else((cX.f k l1).bind fun x3=>some x3)
def cZ.l1:Nat→List Int→List Int→Int→List Int→List (Int)→Int→Option (List Int)
 |0,_,_,_,_,_,_=>none
 |k+1,a1,a2,x1,x2,l2,x4=>bif decide (x4<(x2.length:Int))then(an (decide ((0:Int)≤x4∧x4<(x2.length:Int))) (an (decide ((0:Int)≤I W (x1+x4)∧I W (x1+x4)<(l2.length:Int))) (an (decide ((0:Int)≤I W (x1+x4)∧I W (x1+x4)<(l2.length:Int))) (cZ.l1 k a1 a2 x1 x2 (l2.set (I W (x1+x4)).toNat (bits .xor .u8 (at_ 0 l2 (I W (x1+x4))) (at_ 0 x2 x4))) (I W (x4+1))))))else(cZ.l0 k a1 a2 l2 (I W (x1-1)))
end
def cZ.f(k:Nat)(a1 a2:List Int):Option (List Int):=an (decide ((0:Int)≤I W ((a1.length:Int)+(a2.length:Int))∧I W ((a1.length:Int)+(a2.length:Int))≤I W ((a1.length:Int)+(a2.length:Int))∧I W ((a1.length:Int)+(a2.length:Int))≤140737488355328)) (cZ.l0 k a1 a2 (List.replicate (I W ((a1.length:Int)+(a2.length:Int))).toNat (0:Int)) (I W ((a1.length:Int)-1)))
theorem cZ.calls{a1 a2:List Int}{r:List Int}(hf:(Rs.ah F_).inv w0)(h1:Zg F_ w0 v1_ a1)(h2:Zg F_ w0 v2_ a2)(E:cZ.f k a1 a2=some r):
 Calls aa 217 #[pt F_.p,v1_,v2_] w0 fun e w'=>∃(u0:Value),e= .returned (u0)∧St (Rs.ah F_).fp w0 w' [.ah F_,Y9 u0 r]:=by
 have H:=St.start hf
 unfold cZ.f at E
 refine Zb func217 ?_
 have H:=H.mk0
 refine rg (ye (bc (cs:=#[pt F_.p]) H z (fun b1 w H=>?_)))
 obtain⟨p2,n3,c4,rfl⟩:=eO h2
 refine ye (bc (cs:=#[(.slice p2 n3 c4)]) H z (fun b5 w H=>A_ ?_))
 obtain⟨⟨g7,g8,g9⟩,E⟩:=ar E
 refine ye (ee (e:=(.int .u8)) (z0:=0) aN z H z z g7 g8 a_ a_ (fun v6 w H=>ye (cr zI H (fun b2 w H=>?_))))
 obtain⟨p1,n1,c1,rfl⟩:=bX (H.Gt 4 z)
 refine s_ (cQ pA H 5 z z z z z (fun w H=>A_ ?_))
 have H:St _ _ _ [_,_,_,_,_,_]:=H
 refine A_ ?_
 refine ye (cm 4 [v1_] zt func264 z z z z (rg ?_))
 obtain⟨p3,n2,c2,rfl⟩:=eO h1
 refine ye (bc (cs:=#[(.slice p3 n2 c2)]) H z (fun b3 w H=>A_ ?_))
 refine vr (dt [pt b3] z) (A_ ?_)
 refine⟨.inl z,.func (.func 308) #[] #[pt b3],tk0 z ⟨ba z (ad ai) z,nl (aG (je 18 [pt b3] z func308 z z z z z H 1 z z (fun v1 b4 o1 w hO1 H=>?_)))⟩⟩
 have H:=H.mk0
 refine rg (ye (bc (cs:=#[.func (.yield b4) #[] #[]]) H z (fun b6 w H=>A_ ?_)))
 refine ye (cm 4 [(.slice p3 n2 c2)] vl func231 z z z z (rg (ye (bc (cs:=#[(.slice p3 n2 c2)]) H z (fun b7 w H=>A_ ?_)))))
 refine vr (dt [pt b7] z) (A_ ?_)
 refine⟨.inl z,.func (.func 283) #[] #[pt b7],tk0 z ⟨ba z (ad ai) z,nl (aG (je 19 [pt b7] z func283 z z z z z H 8 z z (fun v2 b8 o2 w hO2 H=>(rg ?_))))⟩⟩
 have H:St _ _ _ [_,_,_,_,_,_,_,_,_,_,_,_]:=H
 refine A_ ?_
 refine bx (fun kk t w=>∃(l1:List Int)(x1:Int)(t1:Fr),kk≤k∧cZ.l0 kk a1 a2 l1 x1=some r∧t=aU t1 [(0,.func (.yield b8) #[] #[]),(1,pt b7),(3,ii x1),Zc]∧St (Rs.ah F_).fp w0 w [.ah F_,.bO v1,.blk b1 #[pt F_.p] 111,.blk b5 #[(.slice p2 n3 c4)] 22,Y9 (.slice p1 n1 c1) l1,.blk b2 #[(.slice p1 n1 c1)] 22,.blk b3 #[(.slice p3 n2 c2)] 22,.obj b4 (.loop o1),.bO v2,.blk b6 #[.func (.yield b4) #[] #[]] 367,.blk b7 #[(.slice p3 n2 c2)] 22,.obj b8 (.loop o2)]) k Ze ?_
 rintro kk t w ⟨l1,x1,t1,hk1,E,rfl,H⟩
 obtain⟨k1,rfl⟩:=Zd kk
 rw[cZ.l0]at E
 refine A_ ?_
 refine aE E z ?_ ?_<;>intro c3 E<;>refine A_ ?_
 ·obtain⟨⟨g1,g2⟩,E⟩:=ar E
  refine A_ ?_
  refine ye (jf [ii x1,iu (at_ 0 a1 x1)] z z H 11 z hO2 z z (A_ ?_))
  refine yB H 11 z hO2 (fun w H=>A_ ?_)
  rcases bR (!decide (at_ 0 a1 x1=0))with c5|c5
  ·have E:=iT c5 E
   refine A_ ?_
   refine dP z c5 z (jf [ii x1,iu (at_ 0 a1 x1)] z z H 7 z hO1 z z (A_ ?_))
   refine yB H 7 z hO1 (fun w H=>A_ ?_)
   refine ye (YN ph H 0 E z (fun _=>gn.calls (H.Gt 0 z) (H.cj 0 z (H.rd h2))) (fun x2 E v3 w H=>A_ ?_))
   refine bx (fun kk t w=>∃(l2:List Int)(x3:Int)(t2:Fr),kk≤k1∧cZ.l1 kk a1 a2 x1 x2 l2 x3=some r∧t=aU t2 [(7,pt b2),(8,ii x1),(25,v3),(26,ii (x2.length:Int)),(27,ii x3),Zc]∧St (Rs.ah F_).fp w0 w [.ah F_,.bO v1,.blk b1 #[pt F_.p] 111,.blk b5 #[(.slice p2 n3 c4)] 22,Y9 (.slice p1 n1 c1) l2,.blk b2 #[(.slice p1 n1 c1)] 22,.blk b3 #[(.slice p3 n2 c2)] 22,.obj b4 (.loop (ku o1)),.bO v2,.blk b6 #[.func (.yield b4) #[] #[]] 367,.blk b7 #[(.slice p3 n2 c2)] 22,.obj b8 (.loop (ku o2)),Y9 v3 x2]) k1 Ze ?_
   rintro kk t w ⟨l2,x3,t2,hk2,E,rfl,H⟩
   obtain⟨k2,rfl⟩:=Zd kk
   rw[cZ.l1]at E
   refine A_ ?_
   refine aE E z ?_ ?_<;>intro c6 E<;>refine A_ ?_
   ·obtain⟨⟨g3,g4⟩,E⟩:=ar E
    refine A_ ?_
    obtain⟨⟨g5,g6⟩,E⟩:=ar E
    refine A_ ?_
    obtain⟨⟨g10,g11⟩,E⟩:=ar E
    refine A_ ?_
    refine s_ (dc dB H 4 z g10 g11 z z (fun w H=>A_ ?_))
    exact⟨k2,bL _,_,_,_,bK hk2,E,Za,H⟩
   refine yN H 7 z hO1 (fun w H=>A_ ?_)
   refine yN H 11 z hO2 (fun w H=>A_ ?_)
   exact⟨k2,a_,_,_,_,a_,E,Za,H.Y8 [0,1,2,3,4,5,6,7,8,9,10,11]⟩
  have E:=iF c5 E
  refine A_ ?_
  refine yN H 11 z hO2 (fun w H=>A_ ?_)
  exact⟨k1,bL _,_,_,_,bK hk1,E,Za,H⟩
 refine⟨.inr z,.tuple #[],tk0 z ⟨ba z ai z,ji H 11 z hO2 (fun w H=>aR (⟨.inr z,.tuple #[],gT H 8 z z (fun w H=>⟨ba z ai z,ji H 7 z hO1 (fun w H=>aR (ab (rg (vr (av bQ z (ak (H.Gt 5 z) z)) ?_))))⟩)⟩))⟩⟩
 refine ye (YM eS H E (fun _=>cX.calls (H.own 4 z (ao (H.Gt 4 z)))) (fun x4 E v4 w H=>A_ ?_))
 cases E
 exact⟨.inl z,_,gT H 1 z z (fun w H=>⟨aB z (ad ai),_,z,H.bN 0 12 z z z⟩)⟩
def gz.l0:Nat→List Int→List (Int)→Int→Option (List Int)
 |0,_,_,_=>none
 |k+1,a1,l1,x1=>bif decide (x1<(a1.length:Int))then(an (decide ((0:Int)≤x1∧x1<(a1.length:Int))) ((cZ.f k l1 ([at_ 0 a1 x1,1])).bind fun x2=>gz.l0 k a1 x2 (I W (x1+1))))else(some l1)
def gz.f(k:Nat)(a1:List Int):Option (List Int):=gz.l0 k a1 ([1]) 0
theorem gz.calls{a1:List Int}{r:List Int}(hf:(Rs.ah F_).inv w0)(h1:Zg F_ w0 v1_ a1)(E:gz.f k a1=some r):
 Calls aa 210 #[pt F_.p,v1_] w0 fun e w'=>∃(u0:Value),e= .returned (u0)∧St (Rs.ah F_).fp w0 w' [.ah F_,Y9 u0 r]:=by
 have H:=St.start hf
 unfold gz.f at E
 refine Zb func210 ?_
 refine A_ ?_
 refine ye (cL (e:=(.int .u8)) (l:=[1]) aN H z f_ ⟨z,z,acu⟩ f_ (fun v1 w H=>A_ ?_))
 refine bx (fun kk t w=>∃(l1:List Int)(x1:Int)(v2:Value)(t1:Fr),kk≤k∧gz.l0 kk a1 l1 x1=some r∧t=aU t1 [(0,pt F_.p),(4,sn),(5,v2),(11,v1_),(12,ii (a1.length:Int)),(13,ii x1),Zc]∧St (Rs.ah F_).fp w0 w [.ah F_,Y9 v2 l1]) k Ze ?_
 rintro kk t w ⟨l1,x1,v2,t1,hk1,E,rfl,H⟩
 obtain⟨k21,rfl⟩:=Zd kk
 rw[gz.l0]at E
 refine A_ ?_
 refine aE E z ?_ ?_<;>intro c1 E<;>refine A_ ?_
 ·obtain⟨⟨g1,g2⟩,E⟩:=ar E
  refine A_ ?_
  refine ye (cL (e:=(.int .u8)) (l:=[at_ 0 a1 x1,1]) aN H z f_ ⟨z,z,z,z,acu⟩ f_ (fun v3 w H=>?_))
  refine ye (YN qV H 0 E z (fun _=>cZ.calls (H.Gt 0 z) (H.cb 1 0 z z z (ao (H.Gt 1 z))) (H.cb 2 0 z z z (ao (H.Gt 2 z)))) (fun x2 E v4 w H=>A_ ?_))
  exact⟨k21,bL _,_,_,_,_,bK hk1,E,Za,H.Y8 [0,3]⟩
 cases E
 exact⟨.inl z,_,tk0 z ⟨aB z (ad ai),_,z,H.bN 0 1 z z z⟩⟩
def qL.f(k:Nat)(a1:Int×Int×Int):Option (List Int):=(dh.f (a1.1,a1.2.1,a1.2.2)).bind fun x5=>bif !decide (x5=0)then(some ([]:List Int))else((kl.f k (a1.1,a1.2.1,a1.2.2)).bind fun x8=>(gz.f k x8).bind fun x1=>some x1)
theorem qL.calls{a1:Int×Int×Int}{r:List Int}(hf:(Rs.ah F_).inv w0)(E:qL.f k a1=some r):
 Calls aa 161 #[pt F_.p,.agg #[ii a1.1,ii a1.2.1,ii a1.2.2]] w0 fun e w'=>∃(u0:Value),e= .returned (u0)∧St (Rs.ah F_).fp w0 w' [.ah F_,Y9 u0 r]:=by
 have H:=St.start hf
 unfold qL.f at E
 refine Zb func161 ?_
 refine rg (ye (bc (cs:=#[ii a1.1,ii a1.2.1,ii a1.2.2]) H z (fun b1 w H=>A_ ?_)))
 refine oo z z (bp (l:=[ii a1.1,ii a1.2.1,ii a1.2.2]) cv (H.Gt 1 z) z z z) ?_
 refine dP z z z (E9 jF H E (fun _=>dh.calls) (fun x5 E w H=>A_ ?_))
 refine aE E z ?_ ?_<;>intro c7 E<;>refine A_ ?_
 ·have H:=H.bB (.int .u8) 5
  cases E
  exact(aL ⟨.inl z,_,tk0 z ⟨aB z (ad ai),_,z,H.bN 0 2 z z z⟩⟩)
 refine vr (bp (l:=[ii a1.1,ii a1.2.1,ii a1.2.2]) cv (H.Gt 1 z) z z z) ?_
 refine ye (YN ve H 0 E z (fun _=>kl.calls (H.Gt 0 z)) (fun x8 E v1 w H=>?_))
 refine ye (YN zm H 0 E z (fun _=>gz.calls (H.Gt 0 z) (H.cb 2 0 z z z (ao (H.Gt 2 z)))) (fun x1 E v2 w H=>A_ ?_))
 cases E
 exact⟨.inl z,_,tk0 z ⟨aB z (ad ai),_,z,H.bN 0 3 z z z⟩⟩
def kq.j0(k:Nat)(a1:Int×Int×Int)(a2:List Int)(x1:Int):Option (List Int×Int):=bif !decide (x1=0)then(some (([]:List Int),x1))else((gf.f (a1.1,a1.2.1,a1.2.2)).bind fun x2=>an (decide ((0:Int)≤x2∧x2≤x2∧x2≤140737488355328)) (an (decide (((List.replicate x2.toNat (0:Int)).length+a2.length)*1≤140737488355328)) ((qL.f k (a1.1,a1.2.1,a1.2.2)).bind fun x3=>(rR.f k (List.replicate x2.toNat (0:Int)++a2) x3).bind fun x4=>some (cB 0 (List.replicate x2.toNat (0:Int)++a2).length x4.1 (List.replicate x2.toNat (0:Int)++a2),0))))
def kq.f(k:Nat)(a1:Int×Int×Int)(a2:List Int):Option (List Int×Int):=(dh.f (a1.1,a1.2.1,a1.2.2)).bind fun x1=>bif !(decide (x1=0))then(kq.j0 k a1 a2 10)else(bif !(decide ((a2.length:Int)=a1.2.1))then(kq.j0 k a1 a2 12)else(kq.j0 k a1 a2 0))
theorem kq.calls{a1:Int×Int×Int}{a2:List Int}{r:List Int×Int}(hf:(Rs.ah F_).inv w0)(h2:Zg F_ w0 v2_ a2)(E:kq.f k a1 a2=some r):
 Calls aa 103 #[pt F_.p,.agg #[ii a1.1,ii a1.2.1,ii a1.2.2],v2_] w0 fun e w'=>∃(u0:Value),e= .returned (.tuple #[u0,.int .u16 r.2])∧St (Rs.ah F_).fp w0 w' [.ah F_,Y9 u0 r.1]:=by
 have H:=St.start hf
 unfold kq.f at E
 refine Zb func103 ?_
 refine rg (ye (bc (cs:=#[pt F_.p]) H z (fun b1 w H=>ye (bc (cs:=#[ii a1.1,ii a1.2.1,ii a1.2.2]) H z (fun b2 w H=>?_)))))
 obtain⟨p3,n4,c5,rfl⟩:=eO h2
 refine ye (bc (cs:=#[(.slice p3 n4 c5)]) H z (fun b6 w H=>A_ ?_))
 refine vr (dt [pt b1,pt b2] z) (vr (cf (cs:=[.func (.func 158) #[] #[pt b1,pt b2],.int .u16 10]) sL z) (vr (dt [pt b6,pt b2] z) (vr (cf (cs:=[.func (.func 159) #[] #[pt b6,pt b2],.int .u16 12]) sL z) (ye (oO (l:=[.func (.func 158) #[] #[pt b1,pt b2],.int .u16 10,.func (.func 159) #[] #[pt b6,pt b2],.int .u16 12]) py H z f_ ⟨z,z,z,z,z,z,acu⟩ f_ (fun b7 w H=>?_))))))
 refine ye (fZ (fun v w=>∃(k18:Nat)(x1:Int),k18≤k∧kq.j0 k18 a1 a2 x1=some r∧v= .int .u16 x1∧St (Rs.ah F_).fp w0 w [.ah F_,.blk b1 #[pt F_.p] 111,.blk b2 #[ii a1.1,ii a1.2.1,ii a1.2.2] 24,.blk b6 #[(.slice p3 n4 c5)] 22,.blk b7 #[.func (.func 158) #[] #[pt b1,pt b2],.int .u16 10,.func (.func 159) #[] #[pt b6,pt b2],.int .u16 12] 249]) ?_ ?_)
 ·refine cm 18 [.slice (some ⟨b7,0,none⟩) 2 2] zk func157 z z z z (A_ ?_)
  refine vr (bJ (lP zH z) (v':=ii 2) z) (A_ ?_)
  refine se (wu (A_ ?_))
  refine vr (bJ (kz py z z f_ f_) (v':=pt b7) z) (vr (bp (l:=[.func (.func 158) #[] #[pt b1,pt b2],.int .u16 10]) sK (H.Gt 4 z) z z z) (ye (cr sU H (fun b3 w H=>?_))))
  have H:St _ _ _ [_,_,_,_,_,_]:=H
  refine s_ (cy sQ H 5 z z z z z z (fun w H=>A_ ?_))
  refine ye (kK 10 [pt b1,pt b2] z GU func158 z z z z (A_ ?_))
  refine oo z z (bp (l:=[ii a1.1,ii a1.2.1,ii a1.2.2]) cv (H.Gt 2 z) z z z) ?_
  refine dP z z z (E9 jF H E (fun _=>dh.calls) (fun x2 E w H=>A_ ?_))
  refine⟨.inl z,.bool (decide (x2=0)),tk0 z ⟨ba z (ad ai) z,vr (cp z) (nl ?_)⟩⟩
  refine aE E z ?_ ?_<;>intro c1 E<;>refine A_ ?_
  ·exact(bG (aL (aL (bG (aL ⟨.inl z,.int .u16 10,tk0 z ⟨ba z (ad ai) z,k,_,aI _,E,z,H.Y8 [0,1,2,3,4]⟩⟩)))))
  refine wu (A_ ?_)
  refine vr (bJ (kz py z z f_ f_) (v':=.pointer (some ⟨b7,2,none⟩)) z) (vr (bp (l:=[.func (.func 159) #[] #[pt b6,pt b2],.int .u16 12]) sK (H.Gt 4 z) z z z) (ye (cr sU H (fun b4 w H=>s_ (cy sQ H 6 z z z z z z (fun w H=>A_ ?_))))))
  refine ye (kK 8 [pt b6,pt b2] z GV func159 z z z z (A_ ?_))
  refine⟨.inl z,.bool (decide ((a2.length:Int)=a1.2.1)),tk0 z ⟨ba z (ad ai) z,(vr (cp z) ?_)⟩⟩
  refine nl ?_
  refine aE E z ?_ ?_<;>intro c2 E<;>refine A_ ?_
  ·exact(bG (aL (aL (bG (aL ⟨.inl z,.int .u16 12,tk0 z ⟨ba z (ad ai) z,k,_,aI _,E,z,H.Y8 [0,1,2,3,4]⟩⟩)))))
  refine wu (A_ ?_)
  exact⟨.inl z,.int .u16 0,tk0 z ⟨ba z (ad ai) z,k,_,aI _,E,z,H.Y8 [0,1,2,3,4]⟩⟩
 rintro _ w ⟨k18,x1,hk1,E,hv_,H⟩
 have hv_:=hv_.symm
 subst hv_
 unfold kq.j0 at E
 refine A_ ?_
 refine aE E z ?_ ?_<;>intro c3 E
 ·refine A_ ?_
  have H:=H.bB (.int .u8) 5
  cases E
  exact(aL ⟨.inl z,_,tk0 z ⟨aB z (ad (ad ai)),_,z,H.bN 0 5 z z z⟩⟩)
 refine aA (ab (rg (vr (bp (l:=[ii a1.1,ii a1.2.1,ii a1.2.2]) cv (H.Gt 2 z) z z z) ?_)))
 refine ye (E9 pf H E (fun _=>gf.calls) (fun x3 E w H=>A_ ?_))
 refine cd (ds:=[]) bZ H z z ?_
 have H:=H.drew
 refine B_ [0,2] H ?_
 obtain⟨⟨g1,g2,g3⟩,E⟩:=ar E
 refine wo 1 z (ee (e:=(.int .u8)) (z0:=0) aN z H z z g1 g2 a_ a_ (fun v1 w H=>⟨fun _=>H.Y8 [0,1,2,3,4],?_⟩))
 obtain⟨g4,E⟩:=ar E
 refine wo 3 z (dZ aN H 5 z (H.rd h2) z z a_ u_ (fun v2 w H=>⟨fun _=>H.Y8 [0,1,2,3,4],B_ [4] (H.Y8 [0,1,2,3,4]) ?_⟩))
 refine cd (ds:=[]) bZ H z z ?_
 have H:=H.drew
 refine B_ [0,1,2] H ?_
 refine wz 3 z H (fun w H=>bp (l:=[ii a1.1,ii a1.2.1,ii a1.2.2]) cv (H.Gt 2 z) z z z) ?_
 refine wo 4 z (YN GX H 0 E z (fun _=>qL.calls (H.Gt 0 z)) (fun x4 E v3 w H=>⟨fun _=>H.Y8 [0,1,2,3,4,5],?_⟩))
 refine wo 5 z (YN GW H 0 E z (fun _=>rR.calls (H.Gt 0 z) (H.cb 5 0 z z z (ao (H.Gt 5 z))) (H.cb 6 0 z z z (ao (H.Gt 6 z)))) (fun x5 E v4 w H=>⟨fun _=>H.Y8 [0,1,2,3,4,5],?_⟩))
 have H:St _ _ _ [_,_,_,_,_,_,_,_]:=H
 refine B_ [6,7,8,9,10] (H.Y8 [0,1,2,3,4,5]) ?_
 refine ye (uL aN H 5 z (ao (H.Gt 7 z)) z z (fun w H=>A_ ?_))
 cases E
 exact⟨.inl z,_,tk0 z ⟨aB z (ad (ad ai)),_,z,H.bN 0 5 z z z⟩⟩
def fK.l0:Nat→List Int→Int→Int→Int→Option (Int)
 |0,_,_,_,_=>none
 |k+1,a1,a2,x1,x2=>bif decide (0≤x2)then(an (decide ((0:Int)≤x2∧x2<(a1.length:Int))) ((gp.f x1 a2).bind fun x3=>fK.l0 k a1 a2 (bits .xor .u8 x3 (at_ 0 a1 x2)) (I W (x2-1))))else(some x1)
def fK.f(k:Nat)(a1:List Int)(a2:Int):Option (Int):=fK.l0 k a1 a2 0 (I W ((a1.length:Int)-1))
theorem fK.calls{a1:List Int}{a2:Int}{r:Int}(hf:(Rs.ah F_).inv w0)(h1:Zg F_ w0 v1_ a1)(E:fK.f k a1 a2=some r):
 Calls aa 177 #[pt F_.p,v1_,iu a2] w0 fun e w'=>e= .returned (iu r)∧St (Rs.ah F_).fp w0 w' [.ah F_]:=by
 have H:=St.start hf
 unfold fK.f at E
 refine Zb func177 ?_
 have H:=H.mk0
 refine rg (ye (bc (cs:=#[pt F_.p]) H z (fun b1 w H=>ye (bc (cs:=#[iu a2]) H z (fun b2 w H=>A_ ?_)))))
 refine ye (cr Ip H (fun b3 w H=>A_ ?_))
 refine ye (cm 4 [v1_] vl func231 z z z z (rg ?_))
 obtain⟨p8,n9,c1,rfl⟩:=eO h1
 refine ye (bc (cs:=#[(.slice p8 n9 c1)]) H z (fun b4 w H=>A_ ?_))
 refine vr (dt [pt b4] z) (A_ ?_)
 refine⟨.inl z,.func (.func 283) #[] #[pt b4],tk0 z ⟨ba z (ad ai) z,nl (aG (je 19 [pt b4] z func283 z z z z z H 1 z z (fun v1 b5 o1 w hO1 H=>(rg ?_))))⟩⟩
 have H:St _ _ _ [_,_,_,_,_,_,_]:=H
 refine A_ ?_
 refine bx (fun kk t w=>∃(x1 x2:Int)(t1:Fr),kk≤k∧fK.l0 kk a1 a2 x1 x2=some r∧t=aU t1 [(0,.func (.yield b5) #[] #[]),(1,pt b4),(3,ii x2),Zc]∧St (Rs.ah F_).fp w0 w [.ah F_,.bO v1,.blk b1 #[pt F_.p] 111,.blk b2 #[iu a2] 5,.blk b3 #[iu x1] 5,.blk b4 #[(.slice p8 n9 c1)] 22,.obj b5 (.loop o1)]) k Ze ?_
 rintro kk t w ⟨x1,x2,t1,hk1,E,rfl,H⟩
 obtain⟨k30,rfl⟩:=Zd kk
 rw[fK.l0]at E
 refine A_ ?_
 refine aE E z ?_ ?_<;>intro c2 E<;>refine A_ ?_
 ·obtain⟨⟨g1,g2⟩,E⟩:=ar E
  refine A_ ?_
  refine ye (jf [ii x2,iu (at_ 0 a1 x2)] z z H 6 z hO1 z z (A_ ?_))
  refine yB H 6 z hO1 (fun w H=>A_ ?_)
  refine ye (YL pg H 0 E z (fun _=>gp.calls (H.Gt 0 z)) (fun x3 E w H=>A_ ?_))
  refine s_ (cQ dB H 4 z z z z z (fun w H=>aK (aR (yN H 6 z hO1 (fun w H=>A_ ?_)))))
  exact⟨k30,bL _,_,_,_,bK hk1,E,Za,H⟩
 refine⟨.inr z,.tuple #[],tk0 z ⟨ba z ai z,ji H 6 z hO1 (fun w H=>aR (ab (rg (vr (av bC z (ak (H.Gt 4 z) z)) (va (iu x1) (nl (aj ?_)))))))⟩⟩
 cases E
 exact⟨.inl z,_,gT H 1 z z (fun w H=>⟨aB z (ad ai),z,H.bA 0 z⟩)⟩
def eR.l0:Nat→List Int→List Int→List (Int)→Int→Option (List Int)
 |0,_,_,_,_=>none
 |k+1,a1,a2,l1,x1=>bif decide (x1<(a2.length:Int))then(an (decide ((0:Int)≤x1∧x1<(a2.length:Int))) ((fK.f k a1 (at_ 0 a2 x1)).bind fun x2=>an (decide ((0:Int)≤x1∧x1<(l1.length:Int))) (eR.l0 k a1 a2 (l1.set x1.toNat x2) (I W (x1+1)))))else(some l1)
def eR.f(k:Nat)(a1 a2:List Int):Option (List Int):=an (decide ((0:Int)≤(a2.length:Int)∧(a2.length:Int)≤(a2.length:Int)∧(a2.length:Int)≤140737488355328)) (eR.l0 k a1 a2 (List.replicate (a2.length:Int).toNat (0:Int)) 0)
theorem eR.calls{a1 a2:List Int}{r:List Int}(hf:(Rs.ah F_).inv w0)(h1:Zg F_ w0 v1_ a1)(h2:Zg F_ w0 v2_ a2)(E:eR.f k a1 a2=some r):
 Calls aa 111 #[pt F_.p,v1_,v2_] w0 fun e w'=>∃(u0:Value),e= .returned (u0)∧St (Rs.ah F_).fp w0 w' [.ah F_,Y9 u0 r]:=by
 have H:=St.start hf
 unfold eR.f at E
 refine Zb func111 ?_
 refine rg (ye (bc (cs:=#[pt F_.p]) H z (fun b1 w H=>?_)))
 obtain⟨p2,n3,c4,rfl⟩:=eO h1
 refine ye (bc (cs:=#[(.slice p2 n3 c4)]) H z (fun b5 w H=>A_ ?_))
 refine vr (dt [pt b1,pt b5] z) (A_ ?_)
 obtain⟨⟨g7,g8,g9⟩,E⟩:=ar E
 refine ye (ee (e:=(.int .u8)) (z0:=0) aN z H z z g7 g8 a_ a_ (fun v6 w H=>A_ ?_))
 refine bx (fun kk t w=>∃(l1:List Int)(x1:Int)(t1:Fr),kk≤k∧eR.l0 kk a1 a2 l1 x1=some r∧t=aU t1 [(6,sn),(7,.func (.func 176) #[] #[pt b1,pt b5]),(8,v6),(17,v2_),(18,ii (a2.length:Int)),(19,ii x1),Zc]∧St (Rs.ah F_).fp w0 w [.ah F_,.blk b1 #[pt F_.p] 111,.blk b5 #[(.slice p2 n3 c4)] 22,Y9 v6 l1]) k Ze ?_
 rintro kk t w ⟨l1,x1,t1,hk1,E,rfl,H⟩
 obtain⟨k1,rfl⟩:=Zd kk
 rw[eR.l0]at E
 refine A_ ?_
 refine aE E z ?_ ?_<;>intro c1 E<;>refine A_ ?_
 ·obtain⟨⟨g1,g2⟩,E⟩:=ar E
  refine A_ ?_
  refine ye (kK 9 [iu (at_ 0 a2 x1),pt b1,pt b5] z G6 func176 z z z z (A_ ?_))
  refine ye (YL vg H 0 E z (fun _=>fK.calls (H.Gt 0 z) (H.cj 0 z (H.rd h1))) (fun x2 E w H=>A_ ?_))
  refine⟨.inl z,iu x2,tk0 z ⟨ba z (ad ai) z,?_⟩⟩
  obtain⟨⟨g3,g4⟩,E⟩:=ar E
  refine A_ ?_
  refine s_ (dc dB H 3 z g3 g4 z z (fun w H=>A_ ?_))
  exact⟨k1,bL _,_,_,_,bK hk1,E,Za,H⟩
 cases E
 exact⟨.inl z,_,tk0 z ⟨aB z (ad ai),_,z,H.bN 0 3 z z z⟩⟩
def lU.f(k:Nat)(a1:Int×Int×Int)(a2:List Int):Option (List Int):=(dh.f (a1.1,a1.2.1,a1.2.2)).bind fun x6=>bif !decide (x6=0)then(some ([]:List Int))else(bif !decide ((a2.length:Int)=a1.1)then(some ([]:List Int))else((kl.f k (a1.1,a1.2.1,a1.2.2)).bind fun x1=>(eR.f k a2 x1).bind fun x2=>some x2))
theorem lU.calls{a1:Int×Int×Int}{a2:List Int}{r:List Int}(hf:(Rs.ah F_).inv w0)(h2:Zg F_ w0 v2_ a2)(E:lU.f k a1 a2=some r):
 Calls aa 76 #[pt F_.p,.agg #[ii a1.1,ii a1.2.1,ii a1.2.2],v2_] w0 fun e w'=>∃(u0:Value),e= .returned (u0)∧St (Rs.ah F_).fp w0 w' [.ah F_,Y9 u0 r]:=by
 have H:=St.start hf
 unfold lU.f at E
 refine Zb func76 ?_
 refine rg (ye (bc (cs:=#[ii a1.1,ii a1.2.1,ii a1.2.2]) H z (fun b1 w H=>A_ ?_)))
 refine oo z z (bp (l:=[ii a1.1,ii a1.2.1,ii a1.2.2]) cv (H.Gt 1 z) z z z) ?_
 refine dP z z z (E9 jF H E (fun _=>dh.calls) (fun x6 E w H=>A_ ?_))
 rcases bR (!decide (x6=0))with c8|c8
 ·have E:=iT c8 E
  refine A_ ?_
  have H:=H.bB (.int .u8) 5
  cases E
  exact(aL ⟨.inl z,_,tk0 z ⟨aB z (ad ai),_,z,H.bN 0 2 z z z⟩⟩)
 have E:=iF c8 E
 refine A_ ?_
 refine aE E z ?_ ?_<;>intro c9 E<;>refine A_ ?_
 ·have H:=H.bB (.int .u8) 5
  cases E
  exact(aL ⟨.inl z,_,tk0 z ⟨aB z (ad ai),_,z,H.bN 0 2 z z z⟩⟩)
 refine vr (bp (l:=[ii a1.1,ii a1.2.1,ii a1.2.2]) cv (H.Gt 1 z) z z z) ?_
 refine ye (YN ve H 0 E z (fun _=>kl.calls (H.Gt 0 z)) (fun x1 E v1 w H=>?_))
 refine ye (YN qU H 0 E z (fun _=>eR.calls (H.Gt 0 z) (H.cj 0 z (H.rd h2)) (H.cb 2 0 z z z (ao (H.Gt 2 z)))) (fun x2 E v2 w H=>A_ ?_))
 cases E
 exact⟨.inl z,_,tk0 z ⟨aB z (ad ai),_,z,H.bN 0 3 z z z⟩⟩
def kX.l0:Nat→List Int→List (Int)→Int→Option (List Int)
 |0,_,_,_=>none
 |k+1,a1,l1,x1=>bif decide (x1<(a1.length:Int))then(an (decide ((0:Int)≤x1∧x1<(a1.length:Int))) ((kj.f (at_ 0 a1 x1)).bind fun x2=>(cZ.f k l1 ([1,x2])).bind fun x3=>kX.l0 k a1 x3 (I W (x1+1))))else(some l1)
def kX.f(k:Nat)(a1:List Int):Option (List Int):=kX.l0 k a1 ([1]) 0
theorem kX.calls{a1:List Int}{r:List Int}(hf:(Rs.ah F_).inv w0)(h1:Rd (.of (.int .i64)) w0 (Ol (Rs.ah F_).fp w0) v1_ a1)(E:kX.f k a1=some r):
 Calls aa 260 #[pt F_.p,v1_] w0 fun e w'=>∃(u0:Value),e= .returned (u0)∧St (Rs.ah F_).fp w0 w' [.ah F_,Y9 u0 r]:=by
 have H:=St.start hf
 unfold kX.f at E
 refine Zb func260 ?_
 refine A_ ?_
 refine ye (cL (e:=(.int .u8)) (l:=[1]) aN H z f_ ⟨z,z,acu⟩ f_ (fun v1 w H=>A_ ?_))
 refine bx (fun kk t w=>∃(l1:List Int)(x1:Int)(v2:Value)(t1:Fr),kk≤k∧kX.l0 kk a1 l1 x1=some r∧t=aU t1 [(0,pt F_.p),(4,sn),(5,v2),(11,v1_),(12,ii (a1.length:Int)),(13,ii x1),Zc]∧St (Rs.ah F_).fp w0 w [.ah F_,Y9 v2 l1]) k Ze ?_
 rintro kk t w ⟨l1,x1,v2,t1,hk1,E,rfl,H⟩
 obtain⟨k25,rfl⟩:=Zd kk
 rw[kX.l0]at E
 refine A_ ?_
 refine aE E z ?_ ?_<;>intro c1 E<;>refine A_ ?_
 ·obtain⟨⟨g1,g2⟩,E⟩:=ar E
  refine A_ ?_
  refine ye (YL vh H 0 E z (fun _=>kj.calls (H.Gt 0 z)) (fun x2 E w H=>ye (cL (e:=(.int .u8)) (l:=[1,x2]) aN H z f_ ⟨z,z,z,z,acu⟩ f_ (fun v3 w H=>?_))))
  refine ye (YN qV H 0 E z (fun _=>cZ.calls (H.Gt 0 z) (H.cb 1 0 z z z (ao (H.Gt 1 z))) (H.cb 2 0 z z z (ao (H.Gt 2 z)))) (fun x3 E v4 w H=>A_ ?_))
  exact⟨k25,bL _,_,_,_,_,bK hk1,E,Za,H.Y8 [0,3]⟩
 cases E
 exact⟨.inl z,_,tk0 z ⟨aB z (ad ai),_,z,H.bN 0 1 z z z⟩⟩
def oG.f(k:Nat)(a1 a2:List Int):Option (List Int):=an (decide ((0:Int)≤(a1.length:Int)∧(a1.length:Int)≤(a1.length:Int)∧(a1.length:Int)≤140737488355328)) ((cZ.f k a1 a2).bind fun x5=>some (cB 0 (List.replicate (a1.length:Int).toNat (0:Int)).length x5 (List.replicate (a1.length:Int).toNat (0:Int))))
theorem oG.calls{a1 a2:List Int}{r:List Int}(hf:(Rs.ah F_).inv w0)(h1:Zg F_ w0 v1_ a1)(h2:Zg F_ w0 v2_ a2)(E:oG.f k a1 a2=some r):
 Calls aa 261 #[pt F_.p,v1_,v2_] w0 fun e w'=>∃(u0:Value),e= .returned (u0)∧St (Rs.ah F_).fp w0 w' [.ah F_,Y9 u0 r]:=by
 have H:=St.start hf
 unfold oG.f at E
 refine Zb func261 ?_
 refine A_ ?_
 obtain⟨⟨g2,g3,g4⟩,E⟩:=ar E
 refine ye (ee (e:=(.int .u8)) (z0:=0) aN z H z z g2 g3 a_ a_ (fun v1 w H=>A_ ?_))
 refine ye (YN qV H 0 E z (fun _=>cZ.calls (H.Gt 0 z) (H.cj 0 z (H.rd h1)) (H.cj 0 z (H.rd h2))) (fun x5 E v7 w H=>ye (uL aN H 1 z (ao (H.Gt 2 z)) z z (fun w H=>A_ ?_))))
 cases E
 exact⟨.inl z,_,tk0 z ⟨aB z (ad ai),_,z,H.bN 0 1 z z z⟩⟩
def kG.f(k:Nat)(a0:(Int×Int×Int)×List Int×List Int):Option (List Int×List Int×List Int):=(lU.f k (a0.1.1,a0.1.2.1,a0.1.2.2) a0.2.1).bind fun x2=>(kX.f k a0.2.2).bind fun x5=>(oG.f k x2 x5).bind fun x8=>some (x2,x5,x8)
theorem kG.calls{a0:(Int×Int×Int)×List Int×List Int}{r:List Int×List Int×List Int}(hf:(Rs.ah F_).inv w0)(h0_4:Zg F_ w0 v0_4_ a0.2.1)(h0_5:Rd (.of (.int .i64)) w0 (Ol (Rs.ah F_).fp w0) v0_5_ a0.2.2)(E:kG.f k a0=some r):
 Calls aa 215 #[.agg #[pt F_.p,ii a0.1.1,ii a0.1.2.1,ii a0.1.2.2,v0_4_,v0_5_]] w0 fun e w'=>∃(u0 u1 u2:Value),e= .returned (.tuple #[u0,u1,u2])∧St (Rs.ah F_).fp w0 w' [.ah F_,Y9 u0 r.1,Y9 u1 r.2.1,Y9 u2 r.2.2]:=by
 have H:=St.start hf
 unfold kG.f at E
 refine Zb func215 ?_
 refine rg (ye (bc (cs:=#[pt F_.p,ii a0.1.1,ii a0.1.2.1,ii a0.1.2.2,v0_4_,v0_5_]) H z (fun b1 w H=>A_ ?_)))
 refine vr (bp (l:=[ii a0.1.1,ii a0.1.2.1,ii a0.1.2.2]) cv (H.Gt 1 z) z z z) (A_ ?_)
 refine ye (YN Ia H 0 E z (fun _=>lU.calls (H.Gt 0 z) (H.cj 0 z (H.rd h0_4))) (fun x2 E v4 w H=>A_ ?_))
 refine ye (YN Hl H 0 E z (fun _=>kX.calls (H.Gt 0 z) (H.cj 0 z (H.rd h0_5))) (fun x5 E v7 w H=>A_ ?_))
 refine ye (YN Hm H 0 E z (fun _=>oG.calls (H.Gt 0 z) (H.cb 2 0 z z z (ao (H.Gt 2 z))) (H.cb 3 0 z z z (ao (H.Gt 3 z)))) (fun x8 E v1 w H=>A_ ?_))
 cases E
 exact⟨.inl z,_,tk0 z ⟨aB z (ad (ad (ad ai))),_,_,_,z,H.Y8 [0,2,3,4]⟩⟩
def jV.f(a0:List Int)(a1:Int):Option (Int):=bif decide (a1<0)then(some 0)else(bif decide ((a0.length:Int)≤a1)then(some 0)else(an (decide ((0:Int)≤a1∧a1<(a0.length:Int))) (some (at_ 0 a0 a1))))
theorem jV.calls{a0:List Int}{a1:Int}{r:Int}(h0:Zf no w0 v0_ a0)(E:jV.f a0 a1=some r):
 Calls aa 270 #[v0_,ii a1] w0 fun e w'=>e= .returned (iu r)∧St no w0 w' []:=by
 have H:=St.nil no w0
 unfold jV.f at E
 refine Zb func270 ?_
 refine A_ ?_
 rcases bR (decide (a1<0))with c1|c1
 ·have E:=iT c1 E
  refine A_ ?_
  cases E
  exact(aL ⟨.inl z,_,tk0 z ⟨aB z (ad ai),z,H.bs⟩⟩)
 have E:=iF c1 E
 refine A_ ?_
 refine aE E z ?_ ?_<;>intro c2 E<;>refine A_ ?_
 ·cases E
  exact(aL ⟨.inl z,_,tk0 z ⟨aB z (ad ai),z,H.bs⟩⟩)
 obtain⟨⟨g3,g4⟩,E⟩:=ar E
 refine A_ ?_
 cases E
 exact⟨.inl z,_,tk0 z ⟨aB z (ad ai),z,H.bs⟩⟩
end Go.Proofs.YtmhkpafkadijgaaGreatDoor.Gw
