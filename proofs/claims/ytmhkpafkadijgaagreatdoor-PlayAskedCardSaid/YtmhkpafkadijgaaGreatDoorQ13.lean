/- A part of the proof of Rows.PlayAskedCardSaid; the conditions are that card's own. -/
import Derived.Test.YtmhkpafkadijgaaGreatDoorQ3
import Derived.Test.YtmhkpafkadijgaaGreatDoorQ12
set_option linter.all false
set_option maxRecDepth 100000
set_option maxHeartbeats 4000000
namespace Go.Proofs.YtmhkpafkadijgaaGreatDoor.Gw
open Go Go.RowKit
variable[de]
open Go.IntKind (i8 i16 i32 i64 u8 u16 u32 u64)
open Tryz renaming prog → aa
def nX.f(a0 a1:Int):Option (Int×Int):=(rE.f a0 a1).bind fun x1=>some (x1.1,x1.2)
theorem nX.calls{w0:World}{a0 a1:Int}{r:Int×Int}(E:nX.f a0 a1=some r):
 Calls aa 333 #[.int .u64 a0,.int .u64 a1] w0 fun e w'=>e= .returned (.tuple #[.int .u64 r.1,.int .u64 r.2])∧St no w0 w' []:=by
 have H:=St.nil no w0
 unfold nX.f at E
 refine aP (N:=30) (args:=[.int .u64 a0,.int .u64 a1]) Tryz.func333 z z (by simp) ?_
 refine rg (va (.int .u64 0) (va (.int .u64 0) (nl (ae (bS z (aA (ab (rg (vm (.int .u64 a0) (vm (.int .u64 a1) ?_))))))))))
 obtain⟨x1,E2,E⟩:=ay E
 refine ye (au HW z ((rE.calls E2).mono ?_))
 rintro _ w ⟨rfl,K⟩
 have H:=H.app K
 refine⟨_,z,vr cz (vr (aX z z) (vr (aX z z) (va (.int .u64 x1.1) (va (.int .u64 x1.2) (nl (rg (vm (.int .u64 x1.1) (vm (.int .u64 x1.2) (va (.int .u64 x1.1) (va (.int .u64 x1.2) (nl (aj ?_))))))))))))⟩
 cases E
 exact⟨.inl z,_,tk0 z ⟨aB z (ad (ad ai)),z,H.bs⟩⟩
def iy.l0:Nat→List (Int)→Int→Option (List Int)
 |0,_,_=>none
 |k+1,l1,x1=>bif decide (x1<(l1.length:Int))then(an (decide ((0:Int)≤x1∧x1≤(l1.length:Int))) (an (decide ((0:Int)≤x1∧x1≤(l1.length:Int))) (iy.l0 k (cB x1.toNat (l1.length-x1.toNat) ((l1.take x1.toNat).drop 0) l1) (i64.wrap (x1+((min ((l1.take x1.toNat).drop 0).length (l1.length-x1.toNat):Nat):Int))))))else(some l1)
def iy.f(k:Nat)(a0:List Int)(a1:Int):Option (List Int):=bif decide (a1<0)then(none)else((nX.f (u64.wrap (a0.length:Int)) (u64.wrap a1)).bind fun x3=>bif decide (0<x3.1)then(none)else(bif decide (9223372036854775807<x3.2)then(none)else(an (decide ((0:Int)≤i64.wrap x3.2∧i64.wrap x3.2≤i64.wrap x3.2∧i64.wrap x3.2≤140737488355328)) (iy.l0 k (cB 0 (List.replicate (i64.wrap x3.2).toNat (0:Int)).length a0 (List.replicate (i64.wrap x3.2).toNat (0:Int))) ((min a0.length (List.replicate (i64.wrap x3.2).toNat (0:Int)).length:Nat):Int)))))
theorem iy.calls{w0:World}{k:Nat}{a0:List Int}{a1:Int}{v0_:Value}{r:List Int}(h0:Rd (.of (.int .u8)) w0 (Ol no w0) v0_ a0)(E:iy.f k a0 a1=some r):
 Calls aa 301 #[v0_,ii a1] w0 fun e w'=>∃(u0:Value),e= .returned (u0)∧St no w0 w' [.own (.int .u8) 5 u0 r]:=by
 have H:=St.nil no w0
 unfold iy.f at E
 refine aP (N:=48) (args:=[v0_,ii a1]) Tryz.func301 z z (by simp) ?_
 refine rg (va sn (nl (ae (rg (vm (ii a1) (vr (aZ z z) (nl ?_)))))))
 refine aE E z (fun c2 E=>?_) (fun c2 E=>?_)
 ·refine aH ?_
  cases E
 ·refine aA (ab (rg (vm v0_ (vr (aY bI (H.rd h0) z) (vr (cD z Tryz.underlying3 Tryz.underlying167) (vm (ii a1) (vr (cD z Tryz.underlying3 Tryz.underlying167) ?_)))))))
  obtain⟨x3,E4,E⟩:=ay E
  refine ye (au HQ z ((nX.calls E4).mono ?_))
  rintro _ w ⟨rfl,K⟩
  have H:=H.app K
  refine⟨_,z,vr cz (vr (aX z z) (vr (aX z z) (va (.int .u64 x3.1) (va (.int .u64 x3.2) (nl (ae (rg (vm (.int .u64 x3.1) (vr (dy z z) (vm (.bool (decide (0<x3.1))) ?_))))))))))⟩
  rcases bR (decide (0<x3.1))with c7|c7
  ·have E:=iT c7 E
   refine ow c7 z (ow c7 z (vr (pT (.bool true) z z c7) (nl (cl z (aH ?_)))))
   cases E
  ·have E:=iF c7 E
   refine oo c7 z (mv (.int .u64 x3.2) z) (oo c7 z (dy z z) (vr (pF (.bool (decide (9223372036854775807<x3.2))) z z c7) (nl ?_)))
   refine aE E z (fun c8 E=>?_) (fun c8 E=>?_)
   ·refine aH ?_
    cases E
   ·refine aA (ab (rg (vm (.int .u64 x3.2) (vr (cD z Tryz.underlying167 Tryz.underlying3) ?_))))
    obtain⟨⟨g1,g2,g3⟩,E⟩:=ar E
    refine ye (ee (e:=(.int .u8)) (z0:=0) aN z H z z g1 g2 (by omega) (by omega) (fun v9 w H=>va v9 (nl (rg (vm v9 (vm v0_ (ye (uL aN H 0 z (H.rd h0) z z (fun w H=>va (ii ((min a0.length (List.replicate (i64.wrap x3.2).toNat (0:Int)).length:Nat):Int)) (nl (ae (aG ?_))))))))))))
    refine bx (fun kk t w=>∃(l1:List Int)(x1:Int)(t1:Fr),kk≤k∧iy.l0 kk l1 x1=some r∧t=aU t1 [(4,sn),(7,v9),(8,ii x1),(1000000,undef)]∧St no w0 w [.own (.int .u8) 5 v9 l1]) k ?_ ?_
    ·exact⟨_,_,_,aI _,E,aD ⟨z,z,z,z,trivial⟩,H⟩
    rintro kk t w ⟨l1,x1,t1,hk1,E,rfl,H⟩
    obtain⟨k1,rfl⟩|rfl:=ks kk
    rotate_left
    ·cases E
    rw[iy.l0]at E
    refine ae (rg (vm (ii x1) (vm v9 (vr (aY bI (ao (H.Gt 0 z)) z) (vr (aZ z z) (nl ?_))))))
    refine aE E z (fun c1 E=>?_) (fun c1 E=>?_)
    ·refine aA (ab (aG (eZ (ds:=[]) (fun w=>∃l':List Int,l'.length=l1.length∧St no w0 w [.own (.int .u8) 5 v9 l']) bZ H z z ?_)))
     have H:=H.drew
     refine wm 0 z ⟨_,z,H⟩ (ii x1) (wm 1 z ⟨_,z,H⟩ v9 (wm 2 z ⟨_,z,H⟩ (ii x1) ?_))
     obtain⟨⟨g4,g5⟩,E⟩:=ar E
     have p1:x1.toNat≤l1.length:=by omega
     have p2:l1.length≤l1.length:=by omega
     refine wz 3 z ⟨_,z,H⟩ (fun w ⟨l',e',H⟩=>OP e' aN (ao (H.Gt 0 z)) z z g4 g5) (wm 4 z ⟨_,z,H⟩ v9 (wm 5 z ⟨_,z,H⟩ (ii x1) ?_))
     obtain⟨⟨g6,g7⟩,E⟩:=ar E
     have p3:0≤x1.toNat:=by omega
     have p4:x1.toNat≤l1.length:=by omega
     refine wz 6 z ⟨_,z,H⟩ (fun w ⟨l',e',H⟩=>ON e' aN (ao (H.Gt 0 z)) z z g6 g7) (wo 7 z (QZ (by omega) (by simpa using p2) aN H 0 z (Rd.bz (ao (H.Gt 0 z)) p3 p4) z z (fun w H=>⟨fun _=>⟨_,mj _ (by omega),H.ag [0] z z⟩,wg 8 z ⟨_,mj _ (by omega),H.ag [0] z z⟩ (aO z z) (wg 9 z ⟨_,mj _ (by omega),H.ag [0] z z⟩ (sg (ii (i64.wrap (x1+((min ((l1.take x1.toNat).drop 0).length (l1.length-x1.toNat):Nat):Int)))) z) (wd (aR ?_)))⟩)))
     exact⟨k1,bL _,_,_,_,bK hk1,E,aD ⟨z,z,z,z,trivial⟩,H⟩
    ·refine bt (aM (aM (bu (ab (rg (vm v9 (va v9 (nl (aj ?_)))))))))
     cases E
     exact⟨.inl z,_,tk0 z ⟨aB z (ad ai),_,z,H.bA 0 z⟩⟩
def gn.f(k:Nat)(a1:Int)(a2:List Int):Option (List Int):=(iy.f k ([a1]) (a2.length:Int)).bind fun x2=>(jJ.f x2 a2).bind fun x5=>some x5
theorem gn.calls{w0:World}{k:Nat}{F_:FD}{a1:Int}{a2:List Int}{v2_:Value}{r:List Int}(hf:(Rs.ah F_).inv w0)(h2:Rd (.of (.int .u8)) w0 (Ol (Rs.ah F_).fp w0) v2_ a2)(E:gn.f k a1 a2=some r):
 Calls aa 255 #[pt F_.p,iu a1,v2_] w0 fun e w'=>∃(u0:Value),e= .returned (u0)∧St (Rs.ah F_).fp w0 w' [.ah F_,.own (.int .u8) 5 u0 r]:=by
 have H:=St.start hf
 unfold gn.f at E
 refine aP (N:=15) (args:=[pt F_.p,iu a1,v2_]) Tryz.func255 z z (by simp) ?_
 refine rg (va sn (nl (rg (vm (pt F_.p) (vm (iu a1) (ye (cL (e:=(.int .u8)) (l:=[a1]) aN H z (by decide) ⟨z,z,trivial⟩ (by decide) (fun v1 w H=>vm v2_ (vr (aY bI (H.rd h2) z) ?_)))))))))
 obtain⟨x2,E3,E⟩:=ay E
 refine ye (au Hz z ((iy.calls (H.own 1 z (ao (H.Gt 1 z))) E3).mono ?_))
 rintro _ w ⟨v4,rfl,K⟩
 have H:=H.app K
 refine⟨_,z,(vm v2_ ?_)⟩
 obtain⟨x5,E6,E⟩:=ay E
 refine ye (au vp z ((jJ.calls (H.Gt 0 z) (H.cb 2 0 z z z (ao (H.Gt 2 z))) (H.cj 0 z (H.rd h2)) E6).mono ?_))
 rintro _ w ⟨v7,rfl,K⟩
 have H:=H.aV 0 z K
 refine⟨_,z,va v7 (nl (aj ?_))⟩
 cases E
 exact⟨.inl z,_,tk0 z ⟨aB z (ad ai),_,z,H.bN 0 3 z z z⟩⟩
def cU.j0(k:Nat)(l1 l2:List Int):Option (List Int×List Int×Bool):=(cX.f k l2).bind fun x1=>some (x1,l1,true)
def cU.j1(l0r:List Int→Int→(Int×Bool)→List (Int)→List (Int)→Option (List Int×List Int×Bool))(k:Nat)(a2:List Int)(x1:Int)(x7:Int×Bool)(l1 l2:List Int)(x2:Int)(l3:List Int):Option (List Int×List Int×Bool):=(eN.f k l3).bind fun x3=>an (decide ((0:Int)≤i64.wrap (x3+1)∧i64.wrap (x3+1)≤(l3.length:Int))) (l0r a2 x1 x7 (l3.take ((i64.wrap (x3+1)).toNat)) (l2.set (i64.wrap ((i64.wrap ((l1.length:Int)-1))-x1)).toNat x2))
mutual
def cU.l0:Nat→List Int→Int→(Int×Bool)→List (Int)→List (Int)→Option (List Int×List Int×Bool)
 |0,_,_,_,_,_=>none
 |k+1,a2,x1,x7,l1,l2=>bif decide (i64.wrap ((l1.length:Int)-1)<x1)then(cU.j0 k l1 l2)else(an (decide ((0:Int)≤i64.wrap ((l1.length:Int)-1)∧i64.wrap ((l1.length:Int)-1)<(l1.length:Int))) ((gp.f (at_ 0 l1 (i64.wrap ((l1.length:Int)-1))) x7.1).bind fun x2=>an (decide ((0:Int)≤i64.wrap ((i64.wrap ((l1.length:Int)-1))-x1)∧i64.wrap ((i64.wrap ((l1.length:Int)-1))-x1)<(l2.length:Int))) (an (decide ((0:Int)≤i64.wrap (x1+1)∧i64.wrap (x1+1)≤(a2.length:Int))) ((gn.f k x2 ((a2.take ((i64.wrap (x1+1)).toNat)).drop 0)).bind fun x3=>cU.l1 k a2 x1 x7 l1 l2 x2 x3 l1 0))))
def cU.l1:Nat→List Int→Int→(Int×Bool)→List (Int)→List (Int)→Int→List Int→List (Int)→Int→Option (List Int×List Int×Bool)
 |0,_,_,_,_,_,_,_,_,_=>none
 |k+1,a2,x1,x7,l1,l2,x2,x3,l3,x4=>bif decide (x4<(x3.length:Int))then(an (decide ((0:Int)≤x4∧x4<(x3.length:Int))) (an (decide ((0:Int)≤i64.wrap (i64.wrap ((i64.wrap ((l1.length:Int)-1))-x1)+x4)∧i64.wrap (i64.wrap ((i64.wrap ((l1.length:Int)-1))-x1)+x4)<(l3.length:Int))) (an (decide ((0:Int)≤i64.wrap (i64.wrap ((i64.wrap ((l1.length:Int)-1))-x1)+x4)∧i64.wrap (i64.wrap ((i64.wrap ((l1.length:Int)-1))-x1)+x4)<(l3.length:Int))) (cU.l1 k a2 x1 x7 l1 l2 x2 x3 (l3.set (i64.wrap (i64.wrap ((i64.wrap ((l1.length:Int)-1))-x1)+x4)).toNat (bits .xor .u8 (at_ 0 l3 (i64.wrap (i64.wrap ((i64.wrap ((l1.length:Int)-1))-x1)+x4))) (at_ 0 x3 x4))) (i64.wrap (x4+1))))))else(cU.j1 (cU.l0 k) k a2 x1 x7 l1 l2 x2 l3)
end
def cU.f(k:Nat)(a1 a2:List Int):Option (List Int×List Int×Bool):=(eN.f k a2).bind fun x1=>bif decide (x1<0)then(some (([]:List Int),([]:List Int),false))else(an (decide ((0:Int)≤x1∧x1<(a2.length:Int))) ((fN.f (at_ 0 a2 x1)).bind fun x7=>(cX.f k a1).bind fun x9=>an (decide ((0:Int)≤max2 (i64.wrap ((x9.length:Int)-x1)) 0∧max2 (i64.wrap ((x9.length:Int)-x1)) 0≤max2 (i64.wrap ((x9.length:Int)-x1)) 0∧max2 (i64.wrap ((x9.length:Int)-x1)) 0≤140737488355328)) (cU.l0 k a2 x1 x7 x9 (List.replicate (max2 (i64.wrap ((x9.length:Int)-x1)) 0).toNat (0:Int)))))
theorem cU.calls{w0:World}{k:Nat}{F_:FD}{a1 a2:List Int}{v1_ v2_:Value}{r:List Int×List Int×Bool}(hf:(Rs.ah F_).inv w0)(h1:Rd (.of (.int .u8)) w0 (Ol (Rs.ah F_).fp w0) v1_ a1)(h2:Rd (.of (.int .u8)) w0 (Ol (Rs.ah F_).fp w0) v2_ a2)(E:cU.f k a1 a2=some r):
 Calls aa 209 #[pt F_.p,v1_,v2_] w0 fun e w'=>∃(u0 u1:Value),e= .returned (.tuple #[u0,u1,.bool r.2.2])∧St (Rs.ah F_).fp w0 w' [.ah F_,.own (.int .u8) 5 u0 r.1,.own (.int .u8) 5 u1 r.2.1]:=by
 have H:=St.start hf
 unfold cU.f at E
 refine aP (N:=95) (args:=[pt F_.p,v1_,v2_]) Tryz.func209 z z (by simp) ?_
 refine rg (va sn (va sn (va (.bool false) (nl (xR (rg (vm v2_ ?_)))))))
 obtain⟨x1,E2,E⟩:=ay E
 refine ye (au qW z ((eN.calls (H.arg (H.rd h2)) E2).mono ?_))
 rintro _ w ⟨rfl,K⟩
 have H:=H.app K
 refine⟨_,z,va (ii x1) (nl (ae (rg (vm (pt F_.p) (vr (cV Tryz.underlying111 z z) (vm (.bool false) (oo z z (mv (ii x1) z) (oo z z (aZ z z) (vr (pF (.bool (decide (x1<0))) z z z) (nl ?_))))))))))⟩
 refine aE E z (fun c4 E=>?_) (fun c4 E=>?_)
 ·refine rg (va sn (va sn (va (.bool false) (nl (aj ?_)))))
  have H:=H.bB (.int .u8) 5
  have H:=H.bB (.int .u8) 5
  cases E
  exact(aL (xl ⟨.inl z,_,tk0 z ⟨aB z (ad (ad (ad ai))),_,_,z,H.fJ 0 1 2 z z z z z z⟩⟩))
 ·refine aA (ab (rg (vm (pt F_.p) (vm v2_ (vm (ii x1) ?_)))))
  obtain⟨⟨g5,g6⟩,E⟩:=ar E
  refine vr (bo aN (H.rd h2) z z g5 g6) (vr (bq bC (H.rd h2) g5 g6 z) ?_)
  obtain⟨x7,E8,E⟩:=ay E
  refine ye (au qX z ((fN.calls (H.Gt 0 z) E8).mono ?_))
  rintro _ w ⟨rfl,K⟩
  have H:=H.aV 0 z K
  refine⟨_,z,vr cz (vr (aX z z) (vr (aX z z) (va (iu x7.1) (va (.bool x7.2) (nl (rg (vm v1_ ?_)))))))⟩
  obtain⟨x9,E1,E⟩:=ay E
  refine ye (au eS z ((cX.calls (H.arg (H.rd h1)) E1).mono ?_))
  rintro _ w ⟨v1,rfl,K⟩
  have H:=H.app K
  refine⟨_,z,va v1 (nl (rg (vm v1 (vr (aY bI (ao (H.Gt 1 z)) z) (vm (ii x1) (vr (bV z z) (vr (uj z z) ?_)))))))⟩
  obtain⟨⟨g1,g2,g3⟩,E⟩:=ar E
  refine ye (ee (e:=(.int .u8)) (z0:=0) aN z H z z g1 g2 (by omega) (by omega) (fun v2 w H=>va v2 (nl (ae (xP (ab ?_))))))
  refine cA (fun t w=>∃(k1:Nat)(l1 l2:List Int)(v3:Value)(t1:Fr),k1≤k∧cU.j0 k1 l1 l2=some r∧t=aU t1 [(6,sn),(7,sn),(8,.bool false),(12,v3),(13,v2),(1000000,undef)]∧St (Rs.ah F_).fp w0 w [.ah F_,.own (.int .u8) 5 v3 l1,.own (.int .u8) 5 v2 l2]) ?_ ?_
  ·refine aG ?_
   refine bx (fun kk t w=>∃(l3 l4:List Int)(v4:Value)(t2:Fr),kk≤k∧cU.l0 kk a2 x1 x7 l3 l4=some r∧t=aU t2 [(0,pt F_.p),(2,v2_),(6,sn),(7,sn),(8,.bool false),(9,ii x1),(10,iu x7.1),(12,v4),(13,v2),(1000000,undef)]∧St (Rs.ah F_).fp w0 w [.ah F_,.own (.int .u8) 5 v4 l3,.own (.int .u8) 5 v2 l4]) k ?_ ?_
   ·exact⟨_,_,_,_,aI _,E,aD ⟨z,z,z,z,z,z,z,z,z,z,trivial⟩,H⟩
   rintro kk t w ⟨l3,l4,v4,t2,hk1,E,rfl,H⟩
   obtain⟨k2,rfl⟩|rfl:=ks kk
   rotate_left
   ·cases E
   rw[cU.l0]at E
   refine aG (rg (vm v4 (vr (aY bI (ao (H.Gt 1 z)) z) (vr (bV z z) (va (ii (i64.wrap ((l3.length:Int)-1))) (nl (ae (rg (vm (ii (i64.wrap ((l3.length:Int)-1))) (vm (ii x1) (vr (aZ z z) (nl ?_))))))))))))
   refine aE E z (fun c1 E=>?_) (fun c1 E=>?_)
   ·refine bt (aM (qs z (aM (bu ?_))))
    exact⟨k2,_,_,_,_,by omega,E,aD ⟨z,z,z,z,z,z,trivial⟩,H⟩
   ·refine aA (ab (rg (vm (pt F_.p) (vm v4 (vm (ii (i64.wrap ((l3.length:Int)-1))) ?_)))))
    obtain⟨⟨g4,g7⟩,E⟩:=ar E
    refine vr (bo aN (ao (H.Gt 1 z)) z z g4 g7) (vr (bq bC (ao (H.Gt 1 z)) g4 g7 z) (vm (iu x7.1) ?_))
    obtain⟨x2,E3,E⟩:=ay E
    refine ye (au pg z ((gp.calls (H.Gt 0 z) E3).mono ?_))
    rintro _ w ⟨rfl,K⟩
    have H:=H.aV 0 z K
    refine⟨_,z,va (iu x2) (nl (rg (vm v2 (vm (ii (i64.wrap ((l3.length:Int)-1))) (vm (ii x1) (vr (bV z z) (vm (iu x2) ?_)))))))⟩
    obtain⟨⟨g8,g9⟩,E⟩:=ar E
    refine vr (bo aN (ao (H.Gt 2 z)) z z g8 g9) (s_ (dc dB H 2 z g8 g9 z z (fun w H=>nl ?_)))
    refine cA (fun t w=>∃(k3:Nat)(l5:List Int)(t3:Fr),k3≤k2∧cU.j1 (cU.l0 k3) k3 a2 x1 x7 l3 l4 x2 l5=some r∧t=aU t3 [(0,pt F_.p),(2,v2_),(6,sn),(7,sn),(8,.bool false),(9,ii x1),(10,iu x7.1),(12,v4),(13,v2),(1000000,undef)]∧St (Rs.ah F_).fp w0 w [.ah F_,.own (.int .u8) 5 v4 l5,.own (.int .u8) 5 v2 (l4.set (i64.wrap ((i64.wrap ((l3.length:Int)-1))-x1)).toNat x2)]) ?_ ?_
    ·refine rg (vm (pt F_.p) (vm (iu x2) (vm v2_ (vm (ii x1) (vr (aO z z) ?_)))))
     obtain⟨⟨g10,g11⟩,E⟩:=ar E
     have p1:0≤(i64.wrap (x1+1)).toNat:=by omega
     have p2:(i64.wrap (x1+1)).toNat≤a2.length:=by omega
     refine vr (fU aN (H.rd h2) z z g10 g11) ?_
     obtain⟨x3,E4,E⟩:=ay E
     refine ye (au ph z ((gn.calls (H.Gt 0 z) (H.cj 0 z (Rd.bz (H.rd h2) p1 p2)) E4).mono ?_))
     rintro _ w ⟨v5,rfl,K⟩
     have H:=H.aV 0 z K
     refine⟨_,z,vr (aY bI (ao (H.Gt 3 z)) z) (vm (ii 0) (nl (aG ?_)))⟩
     refine bx (fun kk t w=>∃(l6:List Int)(x4:Int)(t4:Fr),kk≤k2∧cU.l1 kk a2 x1 x7 l3 l4 x2 x3 l6 x4=some r∧t=aU t4 [(0,pt F_.p),(2,v2_),(6,sn),(7,sn),(8,.bool false),(9,ii x1),(10,iu x7.1),(12,v4),(13,v2),(14,ii (i64.wrap ((l3.length:Int)-1))),(68,v5),(69,ii (x3.length:Int)),(70,ii x4),(1000000,undef)]∧St (Rs.ah F_).fp w0 w [.ah F_,.own (.int .u8) 5 v4 l6,.own (.int .u8) 5 v2 (l4.set (i64.wrap ((i64.wrap ((l3.length:Int)-1))-x1)).toNat x2),.own (.int .u8) 5 v5 x3]) k2 ?_ ?_
     ·exact⟨_,_,_,aI _,E,aD ⟨z,z,z,z,z,z,z,z,z,z,z,z,z,z,trivial⟩,H⟩
     rintro kk t w ⟨l6,x4,t4,hk2,E,rfl,H⟩
     obtain⟨k4,rfl⟩|rfl:=ks kk
     rotate_left
     ·cases E
     rw[cU.l1]at E
     refine rg (vr (aZ z z) (nl (ae ?_)))
     refine aE E z (fun c2 E=>?_) (fun c2 E=>?_)
     ·refine aA (ab (ae (aG (rg (vm (ii x4) ?_)))))
      obtain⟨⟨g12,g16⟩,E⟩:=ar E
      refine vr (bo aN (ao (H.Gt 3 z)) z z g12 g16) (vr (bq bC (ao (H.Gt 3 z)) g12 g16 z) (va (ii x4) (va (iu (at_ 0 x3 x4)) (nl (aH (vm v4 (vm (ii (i64.wrap ((l3.length:Int)-1))) (vm (ii x1) (vr (bV z z) (vm (ii x4) (vr (aO z z) ?_)))))))))))
      obtain⟨⟨g17,g18⟩,E⟩:=ar E
      refine vr (bo aN (ao (H.Gt 1 z)) z z g17 g18) (vr (bq bC (ao (H.Gt 1 z)) g17 g18 z) (vm (iu (at_ 0 x3 x4)) (vr (ij z z) ?_)))
      obtain⟨⟨g19,g20⟩,E⟩:=ar E
      refine vr (bo aN (ao (H.Gt 1 z)) z z g19 g20) (s_ (dc dB H 1 z g19 g20 z z (fun w H=>aK (aR (ab (aH (vr (aO z z) (vm (ii (i64.wrap (x4+1))) (aK ?_)))))))))
      exact⟨k4,bL _,_,_,_,bK hk2,E,aD ⟨z,z,z,z,z,z,z,z,z,z,z,z,z,z,trivial⟩,H⟩
     ·refine bt (aM (aM (bu ?_)))
      exact⟨k4,_,_,by omega,E,aD ⟨z,z,z,z,z,z,z,z,z,z,trivial⟩,H.ag [0,1,2] z z⟩
    rintro t w ⟨k3,l5,t3,hk3,E,rfl,H⟩
    unfold cU.j1 at E
    refine aH (vm v4 (vm v4 ?_))
    obtain⟨x5,E5,E⟩:=ay E
    refine ye (au qW z ((eN.calls (H.own 1 z (ao (H.Gt 1 z))) E5).mono ?_))
    rintro _ w ⟨rfl,K⟩
    have H:=H.app K
    refine⟨_,z,(vr (aO z z) ?_)⟩
    obtain⟨⟨g21,g22⟩,E⟩:=ar E
    have p3:0≤(i64.wrap (x5+1)).toNat:=by omega
    have p4:(i64.wrap (x5+1)).toNat≤l5.length:=by omega
    refine vr (fU aN (ao (H.Gt 1 z)) z z g21 g22) (va (bz v4 0 ((i64.wrap (x5+1)).toNat) 1) (aK (aR ?_)))
    have H:=H.DI 1 z p4
    exact⟨k3,by omega,_,_,_,_,by omega,E,aD ⟨z,z,z,z,z,z,z,z,z,z,trivial⟩,H⟩
  rintro t w ⟨k1,l1,l2,v3,t1,hk4,E,rfl,H⟩
  unfold cU.j0 at E
  refine rg (vm v2 ?_)
  obtain⟨x6,E6,E⟩:=ay E
  refine ye (au eS z ((cX.calls (H.own 2 z (ao (H.Gt 2 z))) E6).mono ?_))
  rintro _ w ⟨v6,rfl,K⟩
  have H:=H.app K
  refine⟨_,z,vm v3 (va v6 (va v3 (va (.bool true) (nl (aj ?_)))))⟩
  cases E
  exact(xl ⟨.inl z,_,tk0 z ⟨aB z (ad (ad (ad ai))),_,_,z,H.fJ 0 3 1 z z z z z z⟩⟩)
def rR.f(k:Nat)(a1 a2:List Int):Option (List Int×Bool):=(cU.f k a1 a2).bind fun x1=>some (x1.2.1,x1.2.2)
theorem rR.calls{w0:World}{k:Nat}{F_:FD}{a1 a2:List Int}{v1_ v2_:Value}{r:List Int×Bool}(hf:(Rs.ah F_).inv w0)(h1:Rd (.of (.int .u8)) w0 (Ol (Rs.ah F_).fp w0) v1_ a1)(h2:Rd (.of (.int .u8)) w0 (Ol (Rs.ah F_).fp w0) v2_ a2)(E:rR.f k a1 a2=some r):
 Calls aa 160 #[pt F_.p,v1_,v2_] w0 fun e w'=>∃(u0:Value),e= .returned (.tuple #[u0,.bool r.2])∧St (Rs.ah F_).fp w0 w' [.ah F_,.own (.int .u8) 5 u0 r.1]:=by
 have H:=St.start hf
 unfold rR.f at E
 refine aP (N:=21) (args:=[pt F_.p,v1_,v2_]) Tryz.func160 z z (by simp) ?_
 refine rg (va sn (va (.bool false) (nl (rg (vm (pt F_.p) (vm v1_ (vm v2_ ?_)))))))
 obtain⟨x1,E2,E⟩:=ay E
 refine ye (au zl z ((cU.calls (H.Gt 0 z) (H.cj 0 z (H.rd h1)) (H.cj 0 z (H.rd h2)) E2).mono ?_))
 rintro _ w ⟨v3,v4,rfl,K⟩
 have H:=H.aV 0 z K
 refine⟨_,z,vr cz (vr (aX z z) (vr (aX z z) (vr (aX z z) (va v3 (va v4 (va (.bool x1.2.2) (nl (rg (vm v4 (vm (.bool x1.2.2) (va v4 (va (.bool x1.2.2) (nl (aj ?_))))))))))))))⟩
 cases E
 exact⟨.inl z,_,tk0 z ⟨aB z (ad (ad ai)),_,z,H.bN 0 2 z z z⟩⟩
def iI.l0:Nat→Int→Int→List (Int)→Int→Option (List Int)
 |0,_,_,_,_=>none
 |k+1,a1,a3,l1,x1=>bif decide ((l1.length:Int)=a1)then(some l1)else(an (decide ((l1.length+([x1]).length)*1≤140737488355328)) ((gp.f x1 a3).bind fun x2=>iI.l0 k a1 a3 (l1++([x1])) x2))
def iI.f(k:Nat)(a1 a2 a3:Int):Option (List Int):=an (decide ((0:Int)≤0∧(0:Int)≤a1∧a1≤140737488355328)) (iI.l0 k a1 a3 (List.replicate (0:Int).toNat (0:Int)) a2)
theorem iI.calls{w0:World}{k:Nat}{F_:FD}{a1 a2 a3:Int}{r:List Int}(hf:(Rs.ah F_).inv w0)(E:iI.f k a1 a2 a3=some r):
 Calls aa 178 #[pt F_.p,ii a1,iu a2,iu a3] w0 fun e w'=>∃(u0:Value),e= .returned (u0)∧St (Rs.ah F_).fp w0 w' [.ah F_,.own (.int .u8) 5 u0 r]:=by
 have H:=St.start hf
 unfold iI.f at E
 refine aP (N:=27) (args:=[pt F_.p,ii a1,iu a2,iu a3]) Tryz.func178 z z (by simp) ?_
 have H:=H.mk0
 refine rg (ye (bc (cs:=#[ii a1]) H z (fun b1 w H=>va sn (nl (rg (vr (av bf z (ak (H.Gt 2 z) z)) ?_))))))
 obtain⟨⟨g3,g4,g5⟩,E⟩:=ar E
 refine ye (ee (e:=(.int .u8)) (z0:=0) aN z H z z g3 g4 (by omega) (by omega) (fun v2 w H=>ye (cr zI H (fun b6 w H=>?_))))
 obtain⟨p7,n8,c9,rfl⟩:=bX (H.Gt 3 z)
 refine s_ (cQ pA H 4 z z z z z (fun w H=>nl (ae (rg (vm (pt F_.p) (vm (iu a2) (vm (iu a3) (ye (cm 8 [pt F_.p,iu a2,iu a3] Hi Tryz.func233 z z z z (rg (ye (bc (cs:=#[pt F_.p]) H z (fun b2 w H=>?_)))))))))))))
 have H:St (Rs.ah F_).fp w0 _ [.ah F_,.bO undef,.blk b1 #[ii a1] 3,.own (.int .u8) 5 (.slice p7 n8 c9) (List.replicate (0:Int).toNat (0:Int)),.blk b6 #[(.slice p7 n8 c9)] 22,.blk b2 #[pt F_.p] 111]:=H
 refine ye (bc (cs:=#[iu a2]) H z (fun b3 w H=>ye (bc (cs:=#[iu a3]) H z (fun b4 w H=>va (.nilFunc) (nl (rg (vr (dt [pt b3,pt b2,pt b4] z) (va (.func (.func 284) #[] #[pt b3,pt b2,pt b4]) (nl (aj (⟨.inl z,.func (.func 284) #[] #[pt b3,pt b2,pt b4],tk0 z ⟨ba z (ad ai) z,nl (aG (je 14 [pt b3,pt b2,pt b4] z Tryz.func284 z z z z z H 1 z z (fun v1 b5 o1 w hO1 H=>rg (vr (av bC z (ak (H.Gt 6 z) z)) (va (iu a2) (nl (aG ?_)))))))⟩⟩)))))))))))
 refine bx (fun kk t w=>∃(l1:List Int)(x1:Int)(v3:Value)(t1:Fr),kk≤k∧iI.l0 kk a1 a3 l1 x1=some r∧t=aU t1 [(0,.func (.yield b5) #[] #[]),(2,pt b2),(3,pt b4),(5,iu x1),(1000000,undef)]∧St (Rs.ah F_).fp w0 w [.ah F_,.bO v1,.blk b1 #[ii a1] 3,.own (.int .u8) 5 v3 l1,.blk b6 #[v3] 22,.blk b2 #[pt F_.p] 111,.blk b3 #[iu a2] 5,.blk b4 #[iu a3] 5,.obj b5 (.loop o1)]) k ?_ ?_
 ·exact⟨_,_,_,_,aI _,E,aD ⟨z,z,z,z,z,trivial⟩,H⟩
 rintro kk t w ⟨l1,x1,v3,t1,hk1,E,rfl,H⟩
 obtain⟨k1,rfl⟩|rfl:=ks kk
 rotate_left
 ·cases E
 rw[iI.l0]at E
 refine ae (rg (vm (.func (.yield b5) #[] #[]) (vm (iu x1) (ye (jf [iu x1] z z H 8 z hO1 z z (aH (va (iu x1) (aK (yB H 8 z hO1 (fun w H=>aG (ae (rg (vr (av bQ z (ak (H.Gt 4 z) z)) (vr (aY bI (ao (H.Gt 3 z)) z) (vr (av bf z (ak (H.Gt 2 z) z)) (vr (cg z z) (nl ?_)))))))))))))))))
 refine aE E z (fun c1 E=>?_) (fun c1 E=>?_)
 ·refine bt (aM (qs z (yX H 8 z (fun w H=>nl (bS z (bt (aM (aM (bu (⟨.inr z,.tuple #[],tk0 z ⟨ba z ai z,Iw H 8 z (fun w H=>bu (ab (rg (vr (av bQ z (ak (H.Gt 4 z) z)) (va v3 (nl (aj ?_)))))))⟩⟩))))))))))
  cases E
  exact⟨.inl z,_,gT H 1 z z (fun w H=>⟨aB z (ad ai),_,z,H.bN 0 3 z z z⟩)⟩
 ·refine aA (ab (aH (vr (av bQ z (ak (H.Gt 4 z) z)) (vm (iu x1) (ye (cL (e:=(.int .u8)) (l:=[x1]) aN H z (by decide) ⟨z,z,trivial⟩ (by decide) (fun v4 w H=>?_)))))))
  obtain⟨g1,E⟩:=ar E
  refine ye (dZ aN H 3 z (ao (H.Gt 9 z)) z z (by omega) (by unfold maxLen;omega) (fun v5 w H=>?_))
  obtain⟨p1,n1,c2,rfl⟩:=bX (H.Gt 3 z)
  refine s_ (cQ pA H 4 z z z z z (fun w H=>aK (aR (yN H 8 z hO1 (fun w H=>nl (cl z (aA (ab (ae (aG (aA (aR (ab (aH (vr (av dk z (ak (H.Gt 5 z) z)) (vm (iu x1) (vr (av bC z (ak (H.Gt 7 z) z)) ?_)))))))))))))))))
  obtain⟨x2,E1,E⟩:=ay E
  refine ye (au pg z ((gp.calls (H.Gt 0 z) E1).mono ?_))
  rintro _ w ⟨rfl,K⟩
  have H:=H.aV 0 z K
  refine⟨_,z,va (iu x2) (aK ?_)⟩
  exact⟨k1,bL _,_,_,_,_,bK hk1,E,aD ⟨z,z,z,z,z,trivial⟩,H.ag [0,1,2,3,4,5,6,7,8] z z⟩
def kj.f(a1:Int):Option (Int):=(jK.f 2 a1).bind fun x1=>some x1
theorem kj.calls{w0:World}{F_:FD}{a1 r:Int}(hf:(Rs.ah F_).inv w0)(E:kj.f a1=some r):
 Calls aa 179 #[pt F_.p,ii a1] w0 fun e w'=>e= .returned (iu r)∧St (Rs.ah F_).fp w0 w' [.ah F_]:=by
 have H:=St.start hf
 unfold kj.f at E
 refine aP (N:=8) (args:=[pt F_.p,ii a1]) Tryz.func179 z z (by simp) ?_
 refine rg (va (iu 0) (nl (rg (vm (pt F_.p) (vm (ii a1) ?_)))))
 obtain⟨x1,E2,E⟩:=ay E
 refine ye (au vn z ((jK.calls (H.Gt 0 z) E2).mono ?_))
 rintro _ w ⟨rfl,K⟩
 have H:=H.aV 0 z K
 refine⟨_,z,va (iu x1) (nl (aj ?_))⟩
 cases E
 exact⟨.inl z,_,tk0 z ⟨aB z (ad ai),z,H.bA 0 z⟩⟩
def kl.f(k:Nat)(a1:Int×Int×Int):Option (List Int):=(dh.f (a1.1,a1.2.1,a1.2.2)).bind fun x5=>bif !decide (x5=0)then(some ([]:List Int))else((gf.f (a1.1,a1.2.1,a1.2.2)).bind fun x8=>(kj.f a1.2.2).bind fun x1=>(iI.f k x8 x1 2).bind fun x2=>some x2)
theorem kl.calls{w0:World}{k:Nat}{F_:FD}{a1:Int×Int×Int}{r:List Int}(hf:(Rs.ah F_).inv w0)(E:kl.f k a1=some r):
 Calls aa 112 #[pt F_.p,.agg #[ii a1.1,ii a1.2.1,ii a1.2.2]] w0 fun e w'=>∃(u0:Value),e= .returned (u0)∧St (Rs.ah F_).fp w0 w' [.ah F_,.own (.int .u8) 5 u0 r]:=by
 have H:=St.start hf
 unfold kl.f at E
 refine aP (N:=20) (args:=[pt F_.p,.agg #[ii a1.1,ii a1.2.1,ii a1.2.2]]) Tryz.func112 z z (by simp) ?_
 refine rg (ye (bc (cs:=#[ii a1.1,ii a1.2.1,ii a1.2.2]) H z (fun b1 w H=>va sn (nl (ae (rg (vm (pt F_.p) (vr (cV Tryz.underlying111 z z) (vm (.bool false) (oo z z (bp (l:=[ii a1.1,ii a1.2.1,ii a1.2.2]) cv (H.Gt 1 z) z z z) ?_))))))))))
 obtain⟨x5,E6,E⟩:=ay E
 refine dP z z z (au jF z ((dh.calls E6).mono ?_))
 rintro _ w ⟨rfl,K⟩
 have H:=H.app K
 refine⟨_,z,oo z z (cx z z) (vr (pF (.bool (!decide (x5=0))) z z z) (nl ?_))⟩
 refine aE E z (fun c7 E=>?_) (fun c7 E=>?_)
 ·refine rg (va sn (nl (aj ?_)))
  have H:=H.bB (.int .u8) 5
  cases E
  exact(aL ⟨.inl z,_,tk0 z ⟨aB z (ad ai),_,z,H.bN 0 2 z z z⟩⟩)
 ·refine aA (ab (ae (cd (ds:=[]) bZ H z z ?_)))
  have H:=H.drew
  refine wm 0 z H (pt F_.p) (wz 1 z H (fun w H=>bp (l:=[ii a1.1,ii a1.2.1,ii a1.2.2]) cv (H.Gt 1 z) z z z) (wm 3 z H (pt F_.p) (wg 4 z H (az nE z) (wz 5 z H (fun w H=>av bf z (ak (H.Gt 1 z) z)) ?_))))
  obtain⟨x8,E9,E⟩:=ay E
  refine wo 2 z (au pf z ((gf.calls E9).mono ?_))
  rintro _ w ⟨rfl,K⟩
  have H:=H.app K
  refine⟨_,z,⟨fun _=>H.ag [0,1] z z,?_⟩⟩
  obtain⟨x1,E1,E⟩:=ay E
  refine wo 6 z (au vh z ((kj.calls (H.Gt 0 z) E1).mono ?_))
  rintro _ w ⟨rfl,K⟩
  have H:=H.aV 0 z K
  refine⟨_,z,⟨fun _=>H.ag [0,1] z z,?_⟩⟩
  obtain⟨x2,E2,E⟩:=ay E
  refine wo 7 z (au G7 z ((iI.calls (H.Gt 0 z) E2).mono ?_))
  rintro _ w ⟨v1,rfl,K⟩
  have H:=H.aV 0 z K
  refine⟨_,z,⟨fun _=>H.ag [0,1] z z,?_⟩⟩
  have H:St (Rs.ah F_).fp w0 _ [.ah F_,.blk b1 #[ii a1.1,ii a1.2.1,ii a1.2.2] 24,.own (.int .u8) 5 v1 x2]:=H
  refine wy 8 z (H.ag [0,1] z z) (sg v1 z) (wd (ab (aj ?_)))
  cases E
  exact⟨.inl z,_,tk0 z ⟨aB z (ad ai),_,z,H.bN 0 2 z z z⟩⟩
mutual
def cZ.l0:Nat→List Int→List Int→List (Int)→Int→Option (List Int)
 |0,_,_,_,_=>none
 |k+1,a1,a2,l1,x1=>bif decide (0≤x1)then(an (decide ((0:Int)≤x1∧x1<(a1.length:Int))) (bif !decide (at_ 0 a1 x1=0)then((gn.f k (at_ 0 a1 x1) a2).bind fun x2=>cZ.l1 k a1 a2 x1 x2 l1 0)else(cZ.l0 k a1 a2 l1 (i64.wrap (x1-1)))))else((cX.f k l1).bind fun x3=>some x3)
def cZ.l1:Nat→List Int→List Int→Int→List Int→List (Int)→Int→Option (List Int)
 |0,_,_,_,_,_,_=>none
 |k+1,a1,a2,x1,x2,l2,x4=>bif decide (x4<(x2.length:Int))then(an (decide ((0:Int)≤x4∧x4<(x2.length:Int))) (an (decide ((0:Int)≤i64.wrap (x1+x4)∧i64.wrap (x1+x4)<(l2.length:Int))) (an (decide ((0:Int)≤i64.wrap (x1+x4)∧i64.wrap (x1+x4)<(l2.length:Int))) (cZ.l1 k a1 a2 x1 x2 (l2.set (i64.wrap (x1+x4)).toNat (bits .xor .u8 (at_ 0 l2 (i64.wrap (x1+x4))) (at_ 0 x2 x4))) (i64.wrap (x4+1))))))else(cZ.l0 k a1 a2 l2 (i64.wrap (x1-1)))
end
def cZ.f(k:Nat)(a1 a2:List Int):Option (List Int):=an (decide ((0:Int)≤i64.wrap ((a1.length:Int)+(a2.length:Int))∧i64.wrap ((a1.length:Int)+(a2.length:Int))≤i64.wrap ((a1.length:Int)+(a2.length:Int))∧i64.wrap ((a1.length:Int)+(a2.length:Int))≤140737488355328)) (cZ.l0 k a1 a2 (List.replicate (i64.wrap ((a1.length:Int)+(a2.length:Int))).toNat (0:Int)) (i64.wrap ((a1.length:Int)-1)))
theorem cZ.calls{w0:World}{k:Nat}{F_:FD}{a1 a2:List Int}{v1_ v2_:Value}{r:List Int}(hf:(Rs.ah F_).inv w0)(h1:Rd (.of (.int .u8)) w0 (Ol (Rs.ah F_).fp w0) v1_ a1)(h2:Rd (.of (.int .u8)) w0 (Ol (Rs.ah F_).fp w0) v2_ a2)(E:cZ.f k a1 a2=some r):
 Calls aa 217 #[pt F_.p,v1_,v2_] w0 fun e w'=>∃(u0:Value),e= .returned (u0)∧St (Rs.ah F_).fp w0 w' [.ah F_,.own (.int .u8) 5 u0 r]:=by
 have H:=St.start hf
 unfold cZ.f at E
 refine aP (N:=44) (args:=[pt F_.p,v1_,v2_]) Tryz.func217 z z (by simp) ?_
 have H:=H.mk0
 refine rg (ye (bc (cs:=#[pt F_.p]) H z (fun b1 w H=>?_)))
 obtain⟨p2,n3,c4,rfl⟩:=eO h2
 refine ye (bc (cs:=#[(.slice p2 n3 c4)]) H z (fun b5 w H=>va sn (nl (rg (vm v1_ (vr (aY bI (H.rd h1) z) (vr (av bQ z (ak (H.Gt 3 z) z)) (vr (aY bI (H.rd h2) z) (vr (aO z z) ?_)))))))))
 obtain⟨⟨g7,g8,g9⟩,E⟩:=ar E
 refine ye (ee (e:=(.int .u8)) (z0:=0) aN z H z z g7 g8 (by omega) (by omega) (fun v6 w H=>ye (cr zI H (fun b2 w H=>?_))))
 obtain⟨p1,n1,c1,rfl⟩:=bX (H.Gt 4 z)
 refine s_ (cQ pA H 5 z z z z z (fun w H=>nl (ae (rg ?_))))
 have H:St (Rs.ah F_).fp w0 _ [.ah F_,.bO undef,.blk b1 #[pt F_.p] 111,.blk b5 #[(.slice p2 n3 c4)] 22,.own (.int .u8) 5 (.slice p1 n1 c1) (List.replicate (i64.wrap ((a1.length:Int)+(a2.length:Int))).toNat (0:Int)),.blk b2 #[(.slice p1 n1 c1)] 22]:=H
 refine vm v1_ (ye (cm 4 [v1_] zt Tryz.func264 z z z z (rg ?_)))
 obtain⟨p3,n2,c2,rfl⟩:=eO h1
 refine ye (bc (cs:=#[(.slice p3 n2 c2)]) H z (fun b3 w H=>va (.nilFunc) (nl (rg (vr (dt [pt b3] z) (va (.func (.func 308) #[] #[pt b3]) (nl (aj (⟨.inl z,.func (.func 308) #[] #[pt b3],tk0 z ⟨ba z (ad ai) z,nl (aG (je 18 [pt b3] z Tryz.func308 z z z z z H 1 z z (fun v1 b4 o1 w hO1 H=>?_)))⟩⟩)))))))))
 have H:=H.mk0
 refine rg (ye (bc (cs:=#[.func (.yield b4) #[] #[]]) H z (fun b6 w H=>nl (rg (vr (av bQ z (ak (H.Gt 6 z) z)) (ye (cm 4 [(.slice p3 n2 c2)] vl Tryz.func231 z z z z (rg (ye (bc (cs:=#[(.slice p3 n2 c2)]) H z (fun b7 w H=>va (.nilFunc) (nl (rg (vr (dt [pt b7] z) (va (.func (.func 283) #[] #[pt b7]) (nl (aj (⟨.inl z,.func (.func 283) #[] #[pt b7],tk0 z ⟨ba z (ad ai) z,nl (aG (je 19 [pt b7] z Tryz.func283 z z z z z H 8 z z (fun v2 b8 o2 w hO2 H=>(rg ?_))))⟩⟩))))))))))))))))))
 have H:St (Rs.ah F_).fp w0 _ [.ah F_,.bO v1,.blk b1 #[pt F_.p] 111,.blk b5 #[(.slice p2 n3 c4)] 22,.own (.int .u8) 5 (.slice p1 n1 c1) (List.replicate (i64.wrap ((a1.length:Int)+(a2.length:Int))).toNat (0:Int)),.blk b2 #[(.slice p1 n1 c1)] 22,.blk b3 #[(.slice p3 n2 c2)] 22,.obj b4 (.loop o1),.bO v2,.blk b6 #[.func (.yield b4) #[] #[]] 367,.blk b7 #[(.slice p3 n2 c2)] 22,.obj b8 (.loop o2)]:=H
 refine vr (av bQ z (ak (H.Gt 10 z) z)) (vr (aY bI (H.rd h1) z) (vr (bV z z) (va (ii (i64.wrap ((a1.length:Int)-1))) (nl (aG ?_)))))
 refine bx (fun kk t w=>∃(l1:List Int)(x1:Int)(t1:Fr),kk≤k∧cZ.l0 kk a1 a2 l1 x1=some r∧t=aU t1 [(0,.func (.yield b8) #[] #[]),(1,pt b7),(3,ii x1),(1000000,undef)]∧St (Rs.ah F_).fp w0 w [.ah F_,.bO v1,.blk b1 #[pt F_.p] 111,.blk b5 #[(.slice p2 n3 c4)] 22,.own (.int .u8) 5 (.slice p1 n1 c1) l1,.blk b2 #[(.slice p1 n1 c1)] 22,.blk b3 #[(.slice p3 n2 c2)] 22,.obj b4 (.loop o1),.bO v2,.blk b6 #[.func (.yield b4) #[] #[]] 367,.blk b7 #[(.slice p3 n2 c2)] 22,.obj b8 (.loop o2)]) k ?_ ?_
 ·exact⟨_,_,_,aI _,E,aD ⟨z,z,z,z,trivial⟩,H⟩
 rintro kk t w ⟨l1,x1,t1,hk1,E,rfl,H⟩
 obtain⟨k1,rfl⟩|rfl:=ks kk
 rotate_left
 ·cases E
 rw[cZ.l0]at E
 refine ae (rg (vm (ii x1) (vr (dq z z) (nl ?_))))
 refine aE E z (fun c3 E=>?_) (fun c3 E=>?_)
 ·refine aA (ab (ae (aG (rg (vm (.func (.yield b8) #[] #[]) (vm (ii x1) (vr (av bQ z (ak (H.Gt 10 z) z)) (vm (ii x1) ?_))))))))
  obtain⟨⟨g1,g2⟩,E⟩:=ar E
  refine vr (bo aN (H.rd h1) z z g1 g2) (vr (bq bC (H.rd h1) g1 g2 z) (ye (jf [ii x1,iu (at_ 0 a1 x1)] z z H 11 z hO2 z z (rg (va (ii x1) (nl (aH (va (iu (at_ 0 a1 x1)) (aK (yB H 11 z hO2 (fun w H=>aG (rg (vm (iu (at_ 0 a1 x1)) (vr (cx z z) (vm (.bool (!decide (at_ 0 a1 x1=0))) ?_)))))))))))))))
  rcases bR (!decide (at_ 0 a1 x1=0))with c5|c5
  ·have E:=iT c5 E
   refine oo c5 z (av zF z (ak (H.Gt 9 z) z)) (oo c5 z (mv (ii x1) z) (oo c5 z (mv (iu (at_ 0 a1 x1)) z) (dP z c5 z (jf [ii x1,iu (at_ 0 a1 x1)] z z H 7 z hO1 z z (rg (va (ii x1) (nl (aH (va (iu (at_ 0 a1 x1)) (aK (yB H 7 z hO1 (fun w H=>aG (rg (vr (av dk z (ak (H.Gt 2 z) z)) (vm (iu (at_ 0 a1 x1)) (vr (av bQ z (ak (H.Gt 3 z) z)) ?_))))))))))))))))
   obtain⟨x2,E1,E⟩:=ay E
   refine ye (au ph z ((gn.calls (H.Gt 0 z) (H.cj 0 z (H.rd h2)) E1).mono ?_))
   rintro _ w ⟨v3,rfl,K⟩
   have H:=H.aV 0 z K
   refine⟨_,z,vr (aY bI (ao (H.Gt 12 z)) z) (vm (ii 0) (nl (aG ?_)))⟩
   refine bx (fun kk t w=>∃(l2:List Int)(x3:Int)(t2:Fr),kk≤k1∧cZ.l1 kk a1 a2 x1 x2 l2 x3=some r∧t=aU t2 [(7,pt b2),(8,ii x1),(25,v3),(26,ii (x2.length:Int)),(27,ii x3),(1000000,undef)]∧St (Rs.ah F_).fp w0 w [.ah F_,.bO v1,.blk b1 #[pt F_.p] 111,.blk b5 #[(.slice p2 n3 c4)] 22,.own (.int .u8) 5 (.slice p1 n1 c1) l2,.blk b2 #[(.slice p1 n1 c1)] 22,.blk b3 #[(.slice p3 n2 c2)] 22,.obj b4 (.loop (ku o1)),.bO v2,.blk b6 #[.func (.yield b4) #[] #[]] 367,.blk b7 #[(.slice p3 n2 c2)] 22,.obj b8 (.loop (ku o2)),.own (.int .u8) 5 v3 x2]) k1 ?_ ?_
   ·exact⟨_,_,_,aI _,E,aD ⟨z,z,z,z,z,z,trivial⟩,H⟩
   rintro kk t w ⟨l2,x3,t2,hk2,E,rfl,H⟩
   obtain⟨k2,rfl⟩|rfl:=ks kk
   rotate_left
   ·cases E
   rw[cZ.l1]at E
   refine rg (vr (aZ z z) (nl (ae ?_)))
   refine aE E z (fun c6 E=>?_) (fun c6 E=>?_)
   ·refine aA (ab (ae (aG (rg (vm (ii x3) ?_)))))
    obtain⟨⟨g3,g4⟩,E⟩:=ar E
    refine vr (bo aN (ao (H.Gt 12 z)) z z g3 g4) (vr (bq bC (ao (H.Gt 12 z)) g3 g4 z) (va (ii x3) (va (iu (at_ 0 x2 x3)) (nl (aH (vr (av bQ z (ak (H.Gt 5 z) z)) (vm (ii x1) (vm (ii x3) (vr (aO z z) ?_)))))))))
    obtain⟨⟨g5,g6⟩,E⟩:=ar E
    refine vr (bo aN (ao (H.Gt 4 z)) z z g5 g6) (vr (bq bC (ao (H.Gt 4 z)) g5 g6 z) (vm (iu (at_ 0 x2 x3)) (vr (ij z z) ?_)))
    obtain⟨⟨g10,g11⟩,E⟩:=ar E
    refine vr (bo aN (ao (H.Gt 4 z)) z z g10 g11) (s_ (dc dB H 4 z g10 g11 z z (fun w H=>aK (aR (ab (aH (vr (aO z z) (vm (ii (i64.wrap (x3+1))) (aK ?_)))))))))
    exact⟨k2,bL _,_,_,_,bK hk2,E,aD ⟨z,z,z,z,z,z,trivial⟩,H⟩
   ·refine bt (aM (aM (bu (aR (yN H 7 z hO1 (fun w H=>oo c5 z (bJ (v':=.bool false) (cp z) z) (vr (pT (.bool false) z z c5) (nl (bS z (aA (aR (yN H 11 z hO2 (fun w H=>vr (bJ (v':=.bool false) (cp z) z) (nl (bS z (aA (aR (ab (aH (vm (ii x1) (vr (bV z z) (va (ii (i64.wrap (x1-1))) (aK ?_)))))))))))))))))))))))
    exact⟨k2,by omega,_,_,_,by omega,E,aD ⟨z,z,z,z,trivial⟩,H.ag [0,1,2,3,4,5,6,7,8,9,10,11] z z⟩
  ·have E:=iF c5 E
   refine ow c5 z (ow c5 z (ow c5 z (ow c5 z (ow c5 z (vr (pF (.bool false) z z c5) (nl (bS z (aA (aR (yN H 11 z hO2 (fun w H=>vr (bJ (v':=.bool false) (cp z) z) (nl (bS z (aA (aR (ab (aH (vm (ii x1) (vr (bV z z) (va (ii (i64.wrap (x1-1))) (aK ?_)))))))))))))))))))))
   exact⟨k1,bL _,_,_,_,bK hk1,E,aD ⟨z,z,z,z,trivial⟩,H⟩
 ·refine bt (aM (aM (bu (⟨.inr z,.tuple #[],tk0 z ⟨ba z ai z,ji H 11 z hO2 (fun w H=>aR (⟨.inr z,.tuple #[],gT H 8 z z (fun w H=>⟨ba z ai z,ji H 7 z hO1 (fun w H=>aR (ab (rg (vr (av bQ z (ak (H.Gt 5 z) z)) ?_))))⟩)⟩))⟩⟩))))
  obtain⟨x4,E2,E⟩:=ay E
  refine ye (au eS z ((cX.calls (H.own 4 z (ao (H.Gt 4 z))) E2).mono ?_))
  rintro _ w ⟨v4,rfl,K⟩
  have H:=H.app K
  refine⟨_,z,va v4 (nl (aj ?_))⟩
  cases E
  exact⟨.inl z,_,gT H 1 z z (fun w H=>⟨aB z (ad ai),_,z,H.bN 0 12 z z z⟩)⟩
def gz.l0:Nat→List Int→List (Int)→Int→Option (List Int)
 |0,_,_,_=>none
 |k+1,a1,l1,x1=>bif decide (x1<(a1.length:Int))then(an (decide ((0:Int)≤x1∧x1<(a1.length:Int))) ((cZ.f k l1 ([at_ 0 a1 x1,1])).bind fun x2=>gz.l0 k a1 x2 (i64.wrap (x1+1))))else(some l1)
def gz.f(k:Nat)(a1:List Int):Option (List Int):=gz.l0 k a1 ([1]) 0
theorem gz.calls{w0:World}{k:Nat}{F_:FD}{a1:List Int}{v1_:Value}{r:List Int}(hf:(Rs.ah F_).inv w0)(h1:Rd (.of (.int .u8)) w0 (Ol (Rs.ah F_).fp w0) v1_ a1)(E:gz.f k a1=some r):
 Calls aa 210 #[pt F_.p,v1_] w0 fun e w'=>∃(u0:Value),e= .returned (u0)∧St (Rs.ah F_).fp w0 w' [.ah F_,.own (.int .u8) 5 u0 r]:=by
 have H:=St.start hf
 unfold gz.f at E
 refine aP (N:=24) (args:=[pt F_.p,v1_]) Tryz.func210 z z (by simp) ?_
 refine rg (va sn (nl (ae (rg (vm (pt F_.p) (vr (cV Tryz.underlying111 z z) (nl (bS z (aA (ab (rg (ye (cL (e:=(.int .u8)) (l:=[1]) aN H z (by decide) ⟨z,z,trivial⟩ (by decide) (fun v1 w H=>va v1 (nl (ae (rg (vm v1_ (vr (aY bI (H.rd h1) z) (vm (ii 0) (nl (aG ?_))))))))))))))))))))))
 refine bx (fun kk t w=>∃(l1:List Int)(x1:Int)(v2:Value)(t1:Fr),kk≤k∧gz.l0 kk a1 l1 x1=some r∧t=aU t1 [(0,pt F_.p),(4,sn),(5,v2),(11,v1_),(12,ii (a1.length:Int)),(13,ii x1),(1000000,undef)]∧St (Rs.ah F_).fp w0 w [.ah F_,.own (.int .u8) 5 v2 l1]) k ?_ ?_
 ·exact⟨_,_,_,_,aI _,E,aD ⟨z,z,z,z,z,z,z,trivial⟩,H⟩
 rintro kk t w ⟨l1,x1,v2,t1,hk1,E,rfl,H⟩
 obtain⟨k21,rfl⟩|rfl:=ks kk
 rotate_left
 ·cases E
 rw[gz.l0]at E
 refine rg (vr (aZ z z) (nl (ae ?_)))
 refine aE E z (fun c1 E=>?_) (fun c1 E=>?_)
 ·refine aA (ab (ae (aG (rg ?_))))
  obtain⟨⟨g1,g2⟩,E⟩:=ar E
  refine vr (bo aN (H.rd h1) z z g1 g2) (vr (bq bC (H.rd h1) g1 g2 z) (va (iu (at_ 0 a1 x1)) (nl (aH (vm (pt F_.p) (vm v2 (vm (iu (at_ 0 a1 x1)) (ye (cL (e:=(.int .u8)) (l:=[at_ 0 a1 x1,1]) aN H z (by decide) ⟨z,z,z,z,trivial⟩ (by decide) (fun v3 w H=>?_))))))))))
  obtain⟨x2,E1,E⟩:=ay E
  refine ye (au qV z ((cZ.calls (H.Gt 0 z) (H.cb 1 0 z z z (ao (H.Gt 1 z))) (H.cb 2 0 z z z (ao (H.Gt 2 z))) E1).mono ?_))
  rintro _ w ⟨v4,rfl,K⟩
  have H:=H.aV 0 z K
  refine⟨_,z,va v4 (aK (aR (ab (aH (vr (aO z z) (vm (ii (i64.wrap (x1+1))) (aK ?_)))))))⟩
  exact⟨k21,bL _,_,_,_,_,bK hk1,E,aD ⟨z,z,z,z,z,z,z,trivial⟩,H.ag [0,3] z z⟩
 ·refine bt (aM (aM (bu (ab (rg (vm v2 (va v2 (nl (aj ?_)))))))))
  cases E
  exact⟨.inl z,_,tk0 z ⟨aB z (ad ai),_,z,H.bN 0 1 z z z⟩⟩
def qL.f(k:Nat)(a1:Int×Int×Int):Option (List Int):=(dh.f (a1.1,a1.2.1,a1.2.2)).bind fun x5=>bif !decide (x5=0)then(some ([]:List Int))else((kl.f k (a1.1,a1.2.1,a1.2.2)).bind fun x8=>(gz.f k x8).bind fun x1=>some x1)
theorem qL.calls{w0:World}{k:Nat}{F_:FD}{a1:Int×Int×Int}{r:List Int}(hf:(Rs.ah F_).inv w0)(E:qL.f k a1=some r):
 Calls aa 161 #[pt F_.p,.agg #[ii a1.1,ii a1.2.1,ii a1.2.2]] w0 fun e w'=>∃(u0:Value),e= .returned (u0)∧St (Rs.ah F_).fp w0 w' [.ah F_,.own (.int .u8) 5 u0 r]:=by
 have H:=St.start hf
 unfold qL.f at E
 refine aP (N:=17) (args:=[pt F_.p,.agg #[ii a1.1,ii a1.2.1,ii a1.2.2]]) Tryz.func161 z z (by simp) ?_
 refine rg (ye (bc (cs:=#[ii a1.1,ii a1.2.1,ii a1.2.2]) H z (fun b1 w H=>va sn (nl (ae (rg (vm (pt F_.p) (vr (cV Tryz.underlying111 z z) (vm (.bool false) (oo z z (bp (l:=[ii a1.1,ii a1.2.1,ii a1.2.2]) cv (H.Gt 1 z) z z z) ?_))))))))))
 obtain⟨x5,E6,E⟩:=ay E
 refine dP z z z (au jF z ((dh.calls E6).mono ?_))
 rintro _ w ⟨rfl,K⟩
 have H:=H.app K
 refine⟨_,z,oo z z (cx z z) (vr (pF (.bool (!decide (x5=0))) z z z) (nl ?_))⟩
 refine aE E z (fun c7 E=>?_) (fun c7 E=>?_)
 ·refine rg (va sn (nl (aj ?_)))
  have H:=H.bB (.int .u8) 5
  cases E
  exact(aL ⟨.inl z,_,tk0 z ⟨aB z (ad ai),_,z,H.bN 0 2 z z z⟩⟩)
 ·refine aA (ab (rg (vm (pt F_.p) (vm (pt F_.p) (vr (bp (l:=[ii a1.1,ii a1.2.1,ii a1.2.2]) cv (H.Gt 1 z) z z z) ?_)))))
  obtain⟨x8,E9,E⟩:=ay E
  refine ye (au ve z ((kl.calls (H.Gt 0 z) E9).mono ?_))
  rintro _ w ⟨v1,rfl,K⟩
  have H:=H.aV 0 z K
  refine⟨_,z,?_⟩
  obtain⟨x1,E1,E⟩:=ay E
  refine ye (au zm z ((gz.calls (H.Gt 0 z) (H.cb 2 0 z z z (ao (H.Gt 2 z))) E1).mono ?_))
  rintro _ w ⟨v2,rfl,K⟩
  have H:=H.aV 0 z K
  refine⟨_,z,va v2 (nl (aj ?_))⟩
  cases E
  exact⟨.inl z,_,tk0 z ⟨aB z (ad ai),_,z,H.bN 0 3 z z z⟩⟩
def kq.j0(k:Nat)(a1:Int×Int×Int)(a2:List Int)(x1:Int):Option (List Int×Int):=bif !decide (x1=0)then(some (([]:List Int),x1))else((gf.f (a1.1,a1.2.1,a1.2.2)).bind fun x2=>an (decide ((0:Int)≤x2∧x2≤x2∧x2≤140737488355328)) (an (decide (((List.replicate x2.toNat (0:Int)).length+a2.length)*1≤140737488355328)) ((qL.f k (a1.1,a1.2.1,a1.2.2)).bind fun x3=>(rR.f k (List.replicate x2.toNat (0:Int)++a2) x3).bind fun x4=>some (cB 0 (List.replicate x2.toNat (0:Int)++a2).length x4.1 (List.replicate x2.toNat (0:Int)++a2),0))))
def kq.f(k:Nat)(a1:Int×Int×Int)(a2:List Int):Option (List Int×Int):=(dh.f (a1.1,a1.2.1,a1.2.2)).bind fun x1=>bif !(decide (x1=0))then(kq.j0 k a1 a2 10)else(bif !(decide ((a2.length:Int)=a1.2.1))then(kq.j0 k a1 a2 12)else(kq.j0 k a1 a2 0))
theorem kq.calls{w0:World}{k:Nat}{F_:FD}{a1:Int×Int×Int}{a2:List Int}{v2_:Value}{r:List Int×Int}(hf:(Rs.ah F_).inv w0)(h2:Rd (.of (.int .u8)) w0 (Ol (Rs.ah F_).fp w0) v2_ a2)(E:kq.f k a1 a2=some r):
 Calls aa 103 #[pt F_.p,.agg #[ii a1.1,ii a1.2.1,ii a1.2.2],v2_] w0 fun e w'=>∃(u0:Value),e= .returned (.tuple #[u0,.int .u16 r.2])∧St (Rs.ah F_).fp w0 w' [.ah F_,.own (.int .u8) 5 u0 r.1]:=by
 have H:=St.start hf
 unfold kq.f at E
 refine aP (N:=41) (args:=[pt F_.p,.agg #[ii a1.1,ii a1.2.1,ii a1.2.2],v2_]) Tryz.func103 z z (by simp) ?_
 refine rg (ye (bc (cs:=#[pt F_.p]) H z (fun b1 w H=>ye (bc (cs:=#[ii a1.1,ii a1.2.1,ii a1.2.2]) H z (fun b2 w H=>?_)))))
 obtain⟨p3,n4,c5,rfl⟩:=eO h2
 refine ye (bc (cs:=#[(.slice p3 n4 c5)]) H z (fun b6 w H=>va sn (va (.int .u16 0) (nl (rg (vr (dt [pt b1,pt b2] z) (vr (cf (cs:=[.func (.func 158) #[] #[pt b1,pt b2],.int .u16 10]) sL z) (vr (dt [pt b6,pt b2] z) (vr (cf (cs:=[.func (.func 159) #[] #[pt b6,pt b2],.int .u16 12]) sL z) (ye (oO (l:=[.func (.func 158) #[] #[pt b1,pt b2],.int .u16 10,.func (.func 159) #[] #[pt b6,pt b2],.int .u16 12]) py H z (by decide) ⟨z,z,z,z,z,z,trivial⟩ (by decide) (fun b7 w H=>?_))))))))))))
 refine ye (fZ (fun v w=>∃(k18:Nat)(x1:Int),k18≤k∧kq.j0 k18 a1 a2 x1=some r∧v= .int .u16 x1∧St (Rs.ah F_).fp w0 w [.ah F_,.blk b1 #[pt F_.p] 111,.blk b2 #[ii a1.1,ii a1.2.1,ii a1.2.2] 24,.blk b6 #[(.slice p3 n4 c5)] 22,.blk b7 #[.func (.func 158) #[] #[pt b1,pt b2],.int .u16 10,.func (.func 159) #[] #[pt b6,pt b2],.int .u16 12] 249]) ?_ ?_)
 ·refine(cm 18 [.slice (some ⟨b7,0,none⟩) 2 2] zk Tryz.func157 z z z z (rg (va (.int .u16 0) (nl (ae (rg (vm (.slice (some ⟨b7,0,none⟩) 2 2) (vr (bJ (lP zH z) (v':=ii 2) z) (vm (ii 0) (nl (aG (se (wu (rg (vr (bJ (v':=.bool true) (aZ z z) z) (nl (ae (cl z (aA (ab (ae (aG (rg (vr (bJ (kz py z z (by decide) (by decide)) (v':=pt b7) z) (vr (bp (l:=[.func (.func 158) #[] #[pt b1,pt b2],.int .u16 10]) sK (H.Gt 4 z) z z z) (ye (cr sU H (fun b3 w H=>?_))))))))))))))))))))))))))))
  have H:St (Rs.ah F_).fp w0 _ [.ah F_,.blk b1 #[pt F_.p] 111,.blk b2 #[ii a1.1,ii a1.2.1,ii a1.2.2] 24,.blk b6 #[(.slice p3 n4 c5)] 22,.blk b7 #[.func (.func 158) #[] #[pt b1,pt b2],.int .u16 10,.func (.func 159) #[] #[pt b6,pt b2],.int .u16 12] 249,.blk b3 #[.nilFunc,.int .u16 0] 249]:=H
  refine s_ (cy sQ H 5 z z z z z z (fun w H=>nl (rg (vr (az sN z) (vr (av q8 z (ak (H.Gt 5 z) z)) (ye (kK 10 [pt b1,pt b2] z GU Tryz.func158 z z z z (rg (va (.bool false) (nl (rg (vr (av dk z (ak (H.Gt 1 z) z)) (vr (xk Tryz.underlying111 z z) (vm (.bool true) (oo z z (bp (l:=[ii a1.1,ii a1.2.1,ii a1.2.2]) cv (H.Gt 2 z) z z z) ?_)))))))))))))))
  obtain⟨x2,E1,E⟩:=ay E
  refine dP z z z (au jF z ((dh.calls E1).mono ?_))
  rintro _ w ⟨rfl,K⟩
  have H:=H.app K
  refine⟨_,z,oo z z (cg z z) (vr (pT (.bool (decide (x2=0))) z z z) (va (.bool (decide (x2=0))) (nl (aj (⟨.inl z,.bool (decide (x2=0)),tk0 z ⟨ba z (ad ai) z,vr (cp z) (nl ?_)⟩⟩)))))⟩
  refine aE E z (fun c1 E=>?_) (fun c1 E=>?_)
  ·refine rg (vr (az sO z) (vr (av sP z (ak (H.Gt 5 z) z)) (va (.int .u16 10) (nl (aj ?_)))))
   exact(bG (aL (aL (bG (aL ⟨.inl z,.int .u16 10,tk0 z ⟨ba z (ad ai) z,k,_,aI _,E,z,H.ag [0,1,2,3,4] z z⟩⟩)))))
  ·refine aA (aR (ab (aH (vr (bJ (v':=ii 1) (aO z z) z) (vm (ii 1) (aK (ab (wu (rg (vr (bJ (v':=.bool true) (aZ z z) z) (nl (ae (cl z (aA (ab (ae (aG (rg (vr (bJ (kz py z z (by decide) (by decide)) (v':=.pointer (some ⟨b7,2,none⟩)) z) (vr (bp (l:=[.func (.func 159) #[] #[pt b6,pt b2],.int .u16 12]) sK (H.Gt 4 z) z z z) (ye (cr sU H (fun b4 w H=>s_ (cy sQ H 6 z z z z z z (fun w H=>nl (rg (vr (az sN z) (vr (av q8 z (ak (H.Gt 6 z) z)) (ye (kK 8 [pt b6,pt b2] z GV Tryz.func159 z z z z (rg (va (.bool false) (nl (rg (vr (av bQ z (ak (H.Gt 3 z) z)) (vr (aY bI (H.rd h2) z) (vr (az jh z) (vr (av bf z (ak (H.Gt 2 z) z)) (vr (cg z z) (va (.bool (decide ((a2.length:Int)=a1.2.1))) (nl (aj (⟨.inl z,.bool (decide ((a2.length:Int)=a1.2.1)),tk0 z ⟨ba z (ad ai) z,(vr (cp z) ?_)⟩⟩)))))))))))))))))))))))))))))))))))))))))))
   refine nl ?_
   refine aE E z (fun c2 E=>?_) (fun c2 E=>?_)
   ·refine rg (vr (az sO z) (vr (av sP z (ak (H.Gt 6 z) z)) (va (.int .u16 12) (nl (aj ?_)))))
    exact(bG (aL (aL (bG (aL ⟨.inl z,.int .u16 12,tk0 z ⟨ba z (ad ai) z,k,_,aI _,E,z,H.ag [0,1,2,3,4] z z⟩⟩)))))
   ·refine aA (aR (ab (aH (vr (bJ (v':=ii 2) (aO z z) z) (vm (ii 2) (aK (ab (wu (rg (vr (bJ (v':=.bool false) (aZ z z) z) (nl (ae (bS z (bt (aM (aM (bu (ab (rg (va (.int .u16 0) (nl (aj ?_))))))))))))))))))))))
    exact⟨.inl z,.int .u16 0,tk0 z ⟨ba z (ad ai) z,k,_,aI _,E,z,H.ag [0,1,2,3,4] z z⟩⟩
 rintro _ w ⟨k18,x1,hk1,E,hv_,H⟩
 have hv_:=hv_.symm
 subst hv_
 unfold kq.j0 at E
 refine va (.int .u16 x1) (nl (ae (rg (vm (.int .u16 x1) (vr (cx z z) (nl ?_))))))
 refine aE E z (fun c3 E=>?_) (fun c3 E=>?_)
 ·refine rg (vm (.int .u16 x1) (va sn (va (.int .u16 x1) (nl (aj ?_)))))
  have H:=H.bB (.int .u8) 5
  cases E
  exact(aL ⟨.inl z,_,tk0 z ⟨aB z (ad (ad ai)),_,z,H.bN 0 5 z z z⟩⟩)
 ·refine aA (ab (rg (vr (bp (l:=[ii a1.1,ii a1.2.1,ii a1.2.2]) cv (H.Gt 2 z) z z z) ?_)))
  obtain⟨x3,E2,E⟩:=ay E
  refine ye (au pf z ((gf.calls E2).mono ?_))
  rintro _ w ⟨rfl,K⟩
  have H:=H.app K
  refine⟨_,z,va (ii x3) (nl (ae (cd (ds:=[]) bZ H z z ?_)))⟩
  have H:=H.drew
  refine wm 0 z H (ii x3) (wz 2 z H (fun w H=>av bQ z (ak (H.Gt 3 z) z)) ?_)
  obtain⟨⟨g1,g2,g3⟩,E⟩:=ar E
  refine wo 1 z (ee (e:=(.int .u8)) (z0:=0) aN z H z z g1 g2 (by omega) (by omega) (fun v1 w H=>⟨fun _=>H.ag [0,1,2,3,4] z z,?_⟩))
  obtain⟨g4,E⟩:=ar E
  refine wo 3 z (dZ aN H 5 z (H.rd h2) z z (by omega) (by unfold maxLen;omega) (fun v2 w H=>⟨fun _=>H.ag [0,1,2,3,4] z z,wy 4 z (H.ag [0,1,2,3,4] z z) (sg v2 z) (wd (ab (ae (cd (ds:=[]) bZ H z z ?_))))⟩))
  have H:=H.drew
  refine wz 0 z H (fun w H=>av dk z (ak (H.Gt 1 z) z)) (wm 1 z H v2 (wz 2 z H (fun w H=>av dk z (ak (H.Gt 1 z) z)) (wz 3 z H (fun w H=>bp (l:=[ii a1.1,ii a1.2.1,ii a1.2.2]) cv (H.Gt 2 z) z z z) ?_)))
  obtain⟨x4,E3,E⟩:=ay E
  refine wo 4 z (au GX z ((qL.calls (H.Gt 0 z) E3).mono ?_))
  rintro _ w ⟨v3,rfl,K⟩
  have H:=H.aV 0 z K
  refine⟨_,z,⟨fun _=>H.ag [0,1,2,3,4,5] z z,?_⟩⟩
  obtain⟨x5,E4,E⟩:=ay E
  refine wo 5 z (au GW z ((rR.calls (H.Gt 0 z) (H.cb 5 0 z z z (ao (H.Gt 5 z))) (H.cb 6 0 z z z (ao (H.Gt 6 z))) E4).mono ?_))
  rintro _ w ⟨v4,rfl,K⟩
  have H:=H.aV 0 z K
  refine⟨_,z,⟨fun _=>H.ag [0,1,2,3,4,5] z z,?_⟩⟩
  have H:St (Rs.ah F_).fp w0 _ [.ah F_,.blk b1 #[pt F_.p] 111,.blk b2 #[ii a1.1,ii a1.2.1,ii a1.2.2] 24,.blk b6 #[(.slice p3 n4 c5)] 22,.blk b7 #[.func (.func 158) #[] #[pt b1,pt b2],.int .u16 10,.func (.func 159) #[] #[pt b6,pt b2],.int .u16 12] 249,.own (.int .u8) 5 v2 (List.replicate x3.toNat (0:Int)++a2),.own (.int .u8) 5 v3 x4,.own (.int .u8) 5 v4 x5.1]:=H
  refine wg 6 z (H.ag [0,1,2,3,4,5] z z) cz (wg 7 z (H.ag [0,1,2,3,4,5] z z) (aX z z) (wg 8 z (H.ag [0,1,2,3,4,5] z z) (aX z z) (wy 9 z (H.ag [0,1,2,3,4,5] z z) (sg v4 z) (wg 10 z (H.ag [0,1,2,3,4,5] z z) (sg (.bool x5.2) z) (wd (ab (rg (vm v2 (vm v4 (ye (uL aN H 5 z (ao (H.Gt 7 z)) z z (fun w H=>nl (rg (vm v2 (va v2 (va (.int .u16 0) (nl (aj ?_))))))))))))))))))
  cases E
  exact⟨.inl z,_,tk0 z ⟨aB z (ad (ad ai)),_,z,H.bN 0 5 z z z⟩⟩
def fK.l0:Nat→List Int→Int→Int→Int→Option (Int)
 |0,_,_,_,_=>none
 |k+1,a1,a2,x1,x2=>bif decide (0≤x2)then(an (decide ((0:Int)≤x2∧x2<(a1.length:Int))) ((gp.f x1 a2).bind fun x3=>fK.l0 k a1 a2 (bits .xor .u8 x3 (at_ 0 a1 x2)) (i64.wrap (x2-1))))else(some x1)
def fK.f(k:Nat)(a1:List Int)(a2:Int):Option (Int):=fK.l0 k a1 a2 0 (i64.wrap ((a1.length:Int)-1))
theorem fK.calls{w0:World}{k:Nat}{F_:FD}{a1:List Int}{a2:Int}{v1_:Value}{r:Int}(hf:(Rs.ah F_).inv w0)(h1:Rd (.of (.int .u8)) w0 (Ol (Rs.ah F_).fp w0) v1_ a1)(E:fK.f k a1 a2=some r):
 Calls aa 177 #[pt F_.p,v1_,iu a2] w0 fun e w'=>e= .returned (iu r)∧St (Rs.ah F_).fp w0 w' [.ah F_]:=by
 have H:=St.start hf
 unfold fK.f at E
 refine aP (N:=24) (args:=[pt F_.p,v1_,iu a2]) Tryz.func177 z z (by simp) ?_
 have H:=H.mk0
 refine rg (ye (bc (cs:=#[pt F_.p]) H z (fun b1 w H=>ye (bc (cs:=#[iu a2]) H z (fun b2 w H=>va (iu 0) (nl (rg (ye (cr Ip H (fun b3 w H=>nl (ae (rg (vr (av dk z (ak (H.Gt 2 z) z)) (vr (cV Tryz.underlying111 z z) (nl (bS z (aA (ab (ae (rg (vm v1_ (ye (cm 4 [v1_] vl Tryz.func231 z z z z (rg ?_))))))))))))))))))))))))
 obtain⟨p8,n9,c1,rfl⟩:=eO h1
 refine ye (bc (cs:=#[(.slice p8 n9 c1)]) H z (fun b4 w H=>va (.nilFunc) (nl (rg (vr (dt [pt b4] z) (va (.func (.func 283) #[] #[pt b4]) (nl (aj (⟨.inl z,.func (.func 283) #[] #[pt b4],tk0 z ⟨ba z (ad ai) z,nl (aG (je 19 [pt b4] z Tryz.func283 z z z z z H 1 z z (fun v1 b5 o1 w hO1 H=>(rg ?_))))⟩⟩)))))))))
 have H:St (Rs.ah F_).fp w0 _ [.ah F_,.bO v1,.blk b1 #[pt F_.p] 111,.blk b2 #[iu a2] 5,.blk b3 #[iu 0] 5,.blk b4 #[(.slice p8 n9 c1)] 22,.obj b5 (.loop o1)]:=H
 refine vr (av bQ z (ak (H.Gt 5 z) z)) (vr (aY bI (H.rd h1) z) (vr (bV z z) (va (ii (i64.wrap ((a1.length:Int)-1))) (nl (aG ?_)))))
 refine bx (fun kk t w=>∃(x1 x2:Int)(t1:Fr),kk≤k∧fK.l0 kk a1 a2 x1 x2=some r∧t=aU t1 [(0,.func (.yield b5) #[] #[]),(1,pt b4),(3,ii x2),(1000000,undef)]∧St (Rs.ah F_).fp w0 w [.ah F_,.bO v1,.blk b1 #[pt F_.p] 111,.blk b2 #[iu a2] 5,.blk b3 #[iu x1] 5,.blk b4 #[(.slice p8 n9 c1)] 22,.obj b5 (.loop o1)]) k ?_ ?_
 ·exact⟨_,_,_,aI _,E,aD ⟨z,z,z,z,trivial⟩,H⟩
 rintro kk t w ⟨x1,x2,t1,hk1,E,rfl,H⟩
 obtain⟨k30,rfl⟩|rfl:=ks kk
 rotate_left
 ·cases E
 rw[fK.l0]at E
 refine ae (rg (vm (ii x2) (vr (dq z z) (nl ?_))))
 refine aE E z (fun c2 E=>?_) (fun c2 E=>?_)
 ·refine aA (ab (ae (aG (rg (vm (.func (.yield b5) #[] #[]) (vm (ii x2) (vr (av bQ z (ak (H.Gt 5 z) z)) (vm (ii x2) ?_))))))))
  obtain⟨⟨g1,g2⟩,E⟩:=ar E
  refine vr (bo aN (H.rd h1) z z g1 g2) (vr (bq bC (H.rd h1) g1 g2 z) (ye (jf [ii x2,iu (at_ 0 a1 x2)] z z H 6 z hO1 z z (aH (va (iu (at_ 0 a1 x2)) (aK (yB H 6 z hO1 (fun w H=>aG (aH (vr (av dk z (ak (H.Gt 2 z) z)) (vr (av bC z (ak (H.Gt 4 z) z)) (vr (av bC z (ak (H.Gt 3 z) z)) ?_))))))))))))
  obtain⟨x3,E1,E⟩:=ay E
  refine ye (au pg z ((gp.calls (H.Gt 0 z) E1).mono ?_))
  rintro _ w ⟨rfl,K⟩
  have H:=H.aV 0 z K
  refine⟨_,z,vm (iu (at_ 0 a1 x2)) (vr (ij z z) (s_ (cQ dB H 4 z z z z z (fun w H=>aK (aR (yN H 6 z hO1 (fun w H=>vr (bJ (v':=.bool false) (cp z) z) (nl (bS z (aA (aR (ab (aH (vm (ii x2) (vr (bV z z) (va (ii (i64.wrap (x2-1))) (aK ?_)))))))))))))))))⟩
  exact⟨k30,bL _,_,_,_,bK hk1,E,aD ⟨z,z,z,z,trivial⟩,H⟩
 ·refine bt (aM (aM (bu (⟨.inr z,.tuple #[],tk0 z ⟨ba z ai z,ji H 6 z hO1 (fun w H=>aR (ab (rg (vr (av bC z (ak (H.Gt 4 z) z)) (va (iu x1) (nl (aj ?_)))))))⟩⟩))))
  cases E
  exact⟨.inl z,_,gT H 1 z z (fun w H=>⟨aB z (ad ai),z,H.bA 0 z⟩)⟩
def eR.l0:Nat→List Int→List Int→List (Int)→Int→Option (List Int)
 |0,_,_,_,_=>none
 |k+1,a1,a2,l1,x1=>bif decide (x1<(a2.length:Int))then(an (decide ((0:Int)≤x1∧x1<(a2.length:Int))) ((fK.f k a1 (at_ 0 a2 x1)).bind fun x2=>an (decide ((0:Int)≤x1∧x1<(l1.length:Int))) (eR.l0 k a1 a2 (l1.set x1.toNat x2) (i64.wrap (x1+1)))))else(some l1)
def eR.f(k:Nat)(a1 a2:List Int):Option (List Int):=an (decide ((0:Int)≤(a2.length:Int)∧(a2.length:Int)≤(a2.length:Int)∧(a2.length:Int)≤140737488355328)) (eR.l0 k a1 a2 (List.replicate (a2.length:Int).toNat (0:Int)) 0)
theorem eR.calls{w0:World}{k:Nat}{F_:FD}{a1 a2:List Int}{v1_ v2_:Value}{r:List Int}(hf:(Rs.ah F_).inv w0)(h1:Rd (.of (.int .u8)) w0 (Ol (Rs.ah F_).fp w0) v1_ a1)(h2:Rd (.of (.int .u8)) w0 (Ol (Rs.ah F_).fp w0) v2_ a2)(E:eR.f k a1 a2=some r):
 Calls aa 111 #[pt F_.p,v1_,v2_] w0 fun e w'=>∃(u0:Value),e= .returned (u0)∧St (Rs.ah F_).fp w0 w' [.ah F_,.own (.int .u8) 5 u0 r]:=by
 have H:=St.start hf
 unfold eR.f at E
 refine aP (N:=32) (args:=[pt F_.p,v1_,v2_]) Tryz.func111 z z (by simp) ?_
 refine rg (ye (bc (cs:=#[pt F_.p]) H z (fun b1 w H=>?_)))
 obtain⟨p2,n3,c4,rfl⟩:=eO h1
 refine ye (bc (cs:=#[(.slice p2 n3 c4)]) H z (fun b5 w H=>va sn (nl (ae (rg (vr (av dk z (ak (H.Gt 1 z) z)) (vr (cV Tryz.underlying111 z z) (nl (bS z (aA (ab (rg (vr (dt [pt b1,pt b5] z) (va (.func (.func 176) #[] #[pt b1,pt b5]) (nl (rg (vm v2_ (vr (aY bI (H.rd h2) z) ?_))))))))))))))))))
 obtain⟨⟨g7,g8,g9⟩,E⟩:=ar E
 refine ye (ee (e:=(.int .u8)) (z0:=0) aN z H z z g7 g8 (by omega) (by omega) (fun v6 w H=>va v6 (nl (ae (rg (vm v2_ (vr (aY bI (H.rd h2) z) (vm (ii 0) (nl (aG ?_))))))))))
 refine bx (fun kk t w=>∃(l1:List Int)(x1:Int)(t1:Fr),kk≤k∧eR.l0 kk a1 a2 l1 x1=some r∧t=aU t1 [(6,sn),(7,.func (.func 176) #[] #[pt b1,pt b5]),(8,v6),(17,v2_),(18,ii (a2.length:Int)),(19,ii x1),(1000000,undef)]∧St (Rs.ah F_).fp w0 w [.ah F_,.blk b1 #[pt F_.p] 111,.blk b5 #[(.slice p2 n3 c4)] 22,.own (.int .u8) 5 v6 l1]) k ?_ ?_
 ·exact⟨_,_,_,aI _,E,aD ⟨z,z,z,z,z,z,z,trivial⟩,H⟩
 rintro kk t w ⟨l1,x1,t1,hk1,E,rfl,H⟩
 obtain⟨k1,rfl⟩|rfl:=ks kk
 rotate_left
 ·cases E
 rw[eR.l0]at E
 refine rg (vr (aZ z z) (nl (ae ?_)))
 refine aE E z (fun c1 E=>?_) (fun c1 E=>?_)
 ·refine aA (ab (ae (aG (rg (vm (ii x1) ?_)))))
  obtain⟨⟨g1,g2⟩,E⟩:=ar E
  refine vr (bo aN (H.rd h2) z z g1 g2) (vr (bq bC (H.rd h2) g1 g2 z) (va (ii x1) (va (iu (at_ 0 a2 x1)) (nl (aH (vm v6 (vm (ii x1) (vm (.func (.func 176) #[] #[pt b1,pt b5]) (vm (iu (at_ 0 a2 x1)) (ye (kK 9 [iu (at_ 0 a2 x1),pt b1,pt b5] z G6 Tryz.func176 z z z z (rg (va (iu 0) (nl (rg (vr (av dk z (ak (H.Gt 1 z) z)) (vr (av bQ z (ak (H.Gt 2 z) z)) (vm (iu (at_ 0 a2 x1)) ?_))))))))))))))))))
  obtain⟨x2,E1,E⟩:=ay E
  refine ye (au vg z ((fK.calls (H.Gt 0 z) (H.cj 0 z (H.rd h1)) E1).mono ?_))
  rintro _ w ⟨rfl,K⟩
  have H:=H.aV 0 z K
  refine⟨_,z,va (iu x2) (nl (aj (⟨.inl z,iu x2,tk0 z ⟨ba z (ad ai) z,?_⟩⟩)))⟩
  obtain⟨⟨g3,g4⟩,E⟩:=ar E
  refine vr (bo aN (ao (H.Gt 3 z)) z z g3 g4) (s_ (dc dB H 3 z g3 g4 z z (fun w H=>aK (aR (ab (aH (vr (aO z z) (vm (ii (i64.wrap (x1+1))) (aK ?_)))))))))
  exact⟨k1,bL _,_,_,_,bK hk1,E,aD ⟨z,z,z,z,z,z,z,trivial⟩,H⟩
 ·refine bt (aM (aM (bu (ab (rg (vm v6 (va v6 (nl (aj ?_)))))))))
  cases E
  exact⟨.inl z,_,tk0 z ⟨aB z (ad ai),_,z,H.bN 0 3 z z z⟩⟩
def lU.f(k:Nat)(a1:Int×Int×Int)(a2:List Int):Option (List Int):=(dh.f (a1.1,a1.2.1,a1.2.2)).bind fun x6=>bif !decide (x6=0)then(some ([]:List Int))else(bif !decide ((a2.length:Int)=a1.1)then(some ([]:List Int))else((kl.f k (a1.1,a1.2.1,a1.2.2)).bind fun x1=>(eR.f k a2 x1).bind fun x2=>some x2))
theorem lU.calls{w0:World}{k:Nat}{F_:FD}{a1:Int×Int×Int}{a2:List Int}{v2_:Value}{r:List Int}(hf:(Rs.ah F_).inv w0)(h2:Rd (.of (.int .u8)) w0 (Ol (Rs.ah F_).fp w0) v2_ a2)(E:lU.f k a1 a2=some r):
 Calls aa 76 #[pt F_.p,.agg #[ii a1.1,ii a1.2.1,ii a1.2.2],v2_] w0 fun e w'=>∃(u0:Value),e= .returned (u0)∧St (Rs.ah F_).fp w0 w' [.ah F_,.own (.int .u8) 5 u0 r]:=by
 have H:=St.start hf
 unfold lU.f at E
 refine aP (N:=27) (args:=[pt F_.p,.agg #[ii a1.1,ii a1.2.1,ii a1.2.2],v2_]) Tryz.func76 z z (by simp) ?_
 refine rg (ye (bc (cs:=#[ii a1.1,ii a1.2.1,ii a1.2.2]) H z (fun b1 w H=>va sn (nl (ae (rg (vm (pt F_.p) (vr (cV Tryz.underlying111 z z) (vm (.bool false) (oo z z (bp (l:=[ii a1.1,ii a1.2.1,ii a1.2.2]) cv (H.Gt 1 z) z z z) ?_))))))))))
 obtain⟨x6,E7,E⟩:=ay E
 refine dP z z z (au jF z ((dh.calls E7).mono ?_))
 rintro _ w ⟨rfl,K⟩
 have H:=H.app K
 refine⟨_,z,oo z z (cx z z) (vr (pF (.bool (!decide (x6=0))) z z z) (vm (.bool (!decide (x6=0))) ?_))⟩
 rcases bR (!decide (x6=0))with c8|c8
 ·have E:=iT c8 E
  refine ow c8 z (ow c8 z (ow c8 z (ow c8 z (ow c8 z (vr (pT (.bool true) z z c8) (nl (cl z (rg (va sn (nl (aj ?_)))))))))))
  have H:=H.bB (.int .u8) 5
  cases E
  exact(aL ⟨.inl z,_,tk0 z ⟨aB z (ad ai),_,z,H.bN 0 2 z z z⟩⟩)
 ·have E:=iF c8 E
  refine oo c8 z (mv v2_ z) (oo c8 z (aY bI (H.rd h2) z) (oo c8 z (az eJ z) (oo c8 z (av bf z (ak (H.Gt 1 z) z)) (oo c8 z (cx z z) (vr (pF (.bool (!decide ((a2.length:Int)=a1.1))) z z c8) (nl ?_))))))
  refine aE E z (fun c9 E=>?_) (fun c9 E=>?_)
  ·refine rg (va sn (nl (aj ?_)))
   have H:=H.bB (.int .u8) 5
   cases E
   exact(aL ⟨.inl z,_,tk0 z ⟨aB z (ad ai),_,z,H.bN 0 2 z z z⟩⟩)
  ·refine aA (ab (rg (vm (pt F_.p) (vm v2_ (vm (pt F_.p) (vr (bp (l:=[ii a1.1,ii a1.2.1,ii a1.2.2]) cv (H.Gt 1 z) z z z) ?_))))))
   obtain⟨x1,E1,E⟩:=ay E
   refine ye (au ve z ((kl.calls (H.Gt 0 z) E1).mono ?_))
   rintro _ w ⟨v1,rfl,K⟩
   have H:=H.aV 0 z K
   refine⟨_,z,?_⟩
   obtain⟨x2,E2,E⟩:=ay E
   refine ye (au qU z ((eR.calls (H.Gt 0 z) (H.cj 0 z (H.rd h2)) (H.cb 2 0 z z z (ao (H.Gt 2 z))) E2).mono ?_))
   rintro _ w ⟨v2,rfl,K⟩
   have H:=H.aV 0 z K
   refine⟨_,z,va v2 (nl (aj ?_))⟩
   cases E
   exact⟨.inl z,_,tk0 z ⟨aB z (ad ai),_,z,H.bN 0 3 z z z⟩⟩
def kX.l0:Nat→List Int→Option (List Int)
 |0,_=>none
 |k+1,a1=>bif decide (0<(a1.length:Int))then(none)else(some ([1]))
def kX.f(k:Nat)(a1:List Int):Option (List Int):=kX.l0 k a1
theorem kX.calls{w0:World}{k:Nat}{F_:FD}{a1:List Int}{v1_:Value}{r:List Int}(hf:(Rs.ah F_).inv w0)(h1:Rd (.of (.int .i64)) w0 (Ol (Rs.ah F_).fp w0) v1_ a1)(E:kX.f k a1=some r):
 Calls aa 260 #[pt F_.p,v1_] w0 fun e w'=>∃(u0:Value),e= .returned (u0)∧St (Rs.ah F_).fp w0 w' [.ah F_,.own (.int .u8) 5 u0 r]:=by
 have H:=St.start hf
 unfold kX.f at E
 refine aP (N:=26) (args:=[pt F_.p,v1_]) Tryz.func260 z z (by simp) ?_
 refine rg (va sn (nl (ae (rg (vm (pt F_.p) (vr (cV Tryz.underlying111 z z) (nl (bS z (aA (ab (rg (ye (cL (e:=(.int .u8)) (l:=[1]) aN H z (by decide) ⟨z,z,trivial⟩ (by decide) (fun v1 w H=>va v1 (nl (ae (rg (vm v1_ (vr (aY gK (H.rd h1) z) (vm (ii 0) (nl (aG ?_))))))))))))))))))))))
 refine bx (fun kk t w=>∃(t8:Fr),kk≤k∧kX.l0 kk a1=some r∧t=aU t8 [(0,pt F_.p),(4,sn),(5,v1),(11,v1_),(12,ii (a1.length:Int)),(13,ii 0),(1000000,undef)]∧St (Rs.ah F_).fp w0 w [.ah F_,.own (.int .u8) 5 v1 ([1])]) k ?_ ?_
 ·exact⟨_,aI _,E,aD ⟨z,z,z,z,z,z,z,trivial⟩,H⟩
 rintro kk t w ⟨t8,hk7,E,rfl,H⟩
 obtain⟨k6,rfl⟩|rfl:=ks kk
 rotate_left
 ·cases E
 rw[kX.l0]at E
 refine rg (vr (aZ z z) (nl (ae ?_)))
 refine aE E z (fun c1 E=>?_) (fun c1 E=>?_)
 ·cases E
 ·refine bt (aM (aM (bu (ab (rg (vm v1 (va v1 (nl (aj ?_)))))))))
  cases E
  exact⟨.inl z,_,tk0 z ⟨aB z (ad ai),_,z,H.bN 0 1 z z z⟩⟩
def oG.f(k:Nat)(a1 a2:List Int):Option (List Int):=an (decide ((0:Int)≤(a1.length:Int)∧(a1.length:Int)≤(a1.length:Int)∧(a1.length:Int)≤140737488355328)) ((cZ.f k a1 a2).bind fun x5=>some (cB 0 (List.replicate (a1.length:Int).toNat (0:Int)).length x5 (List.replicate (a1.length:Int).toNat (0:Int))))
theorem oG.calls{w0:World}{k:Nat}{F_:FD}{a1 a2:List Int}{v1_ v2_:Value}{r:List Int}(hf:(Rs.ah F_).inv w0)(h1:Rd (.of (.int .u8)) w0 (Ol (Rs.ah F_).fp w0) v1_ a1)(h2:Rd (.of (.int .u8)) w0 (Ol (Rs.ah F_).fp w0) v2_ a2)(E:oG.f k a1 a2=some r):
 Calls aa 261 #[pt F_.p,v1_,v2_] w0 fun e w'=>∃(u0:Value),e= .returned (u0)∧St (Rs.ah F_).fp w0 w' [.ah F_,.own (.int .u8) 5 u0 r]:=by
 have H:=St.start hf
 unfold oG.f at E
 refine aP (N:=20) (args:=[pt F_.p,v1_,v2_]) Tryz.func261 z z (by simp) ?_
 refine rg (va sn (nl (ae (rg (vm (pt F_.p) (vr (cV Tryz.underlying111 z z) (nl (bS z (aA (ab (rg (vm v1_ (vr (aY bI (H.rd h1) z) ?_)))))))))))))
 obtain⟨⟨g2,g3,g4⟩,E⟩:=ar E
 refine ye (ee (e:=(.int .u8)) (z0:=0) aN z H z z g2 g3 (by omega) (by omega) (fun v1 w H=>va v1 (nl (rg (vm v1 (vm (pt F_.p) (vm v1_ (vm v2_ ?_))))))))
 obtain⟨x5,E6,E⟩:=ay E
 refine ye (au qV z ((cZ.calls (H.Gt 0 z) (H.cj 0 z (H.rd h1)) (H.cj 0 z (H.rd h2)) E6).mono ?_))
 rintro _ w ⟨v7,rfl,K⟩
 have H:=H.aV 0 z K
 refine⟨_,z,ye (uL aN H 1 z (ao (H.Gt 2 z)) z z (fun w H=>nl (rg (vm v1 (va v1 (nl (aj ?_)))))))⟩
 cases E
 exact⟨.inl z,_,tk0 z ⟨aB z (ad ai),_,z,H.bN 0 1 z z z⟩⟩
def kG.f(k:Nat)(a0:(Int×Int×Int)×List Int×List Int):Option (List Int×List Int×List Int):=(lU.f k (a0.1.1,a0.1.2.1,a0.1.2.2) a0.2.1).bind fun x2=>(kX.f k a0.2.2).bind fun x5=>(oG.f k x2 x5).bind fun x8=>some (x2,x5,x8)
theorem kG.calls{w0:World}{k:Nat}{F_:FD}{a0:(Int×Int×Int)×List Int×List Int}{v0_4_ v0_5_:Value}{r:List Int×List Int×List Int}(hf:(Rs.ah F_).inv w0)(h0_4:Rd (.of (.int .u8)) w0 (Ol (Rs.ah F_).fp w0) v0_4_ a0.2.1)(h0_5:Rd (.of (.int .i64)) w0 (Ol (Rs.ah F_).fp w0) v0_5_ a0.2.2)(E:kG.f k a0=some r):
 Calls aa 215 #[.agg #[pt F_.p,ii a0.1.1,ii a0.1.2.1,ii a0.1.2.2,v0_4_,v0_5_]] w0 fun e w'=>∃(u0 u1 u2:Value),e= .returned (.tuple #[u0,u1,u2])∧St (Rs.ah F_).fp w0 w' [.ah F_,.own (.int .u8) 5 u0 r.1,.own (.int .u8) 5 u1 r.2.1,.own (.int .u8) 5 u2 r.2.2]:=by
 have H:=St.start hf
 unfold kG.f at E
 refine aP (N:=24) (args:=[.agg #[pt F_.p,ii a0.1.1,ii a0.1.2.1,ii a0.1.2.2,v0_4_,v0_5_]]) Tryz.func215 z z (by simp) ?_
 refine rg (ye (bc (cs:=#[pt F_.p,ii a0.1.1,ii a0.1.2.1,ii a0.1.2.2,v0_4_,v0_5_]) H z (fun b1 w H=>va sn (va sn (va sn (nl (rg (vr (az gh z) (vr (av dk z (ak (H.Gt 1 z) z)) (vr (az km z) (vr (bp (l:=[ii a0.1.1,ii a0.1.2.1,ii a0.1.2.2]) cv (H.Gt 1 z) z z z) (vr (az pn z) (vr (av bQ z (ak (H.Gt 1 z) z)) ?_)))))))))))))
 obtain⟨x2,E3,E⟩:=ay E
 refine ye (au Ia z ((lU.calls (H.Gt 0 z) (H.cj 0 z (H.rd h0_4)) E3).mono ?_))
 rintro _ w ⟨v4,rfl,K⟩
 have H:=H.aV 0 z K
 refine⟨_,z,va v4 (nl (rg (vr (az gh z) (vr (av dk z (ak (H.Gt 1 z) z)) (vr (az mn z) (vr (av eU z (ak (H.Gt 1 z) z)) ?_))))))⟩
 obtain⟨x5,E6,E⟩:=ay E
 refine ye (au Hl z ((kX.calls (H.Gt 0 z) (H.cj 0 z (H.rd h0_5)) E6).mono ?_))
 rintro _ w ⟨v7,rfl,K⟩
 have H:=H.aV 0 z K
 refine⟨_,z,va v7 (nl (rg (vm v4 (vm v7 (vr (az gh z) (vr (av dk z (ak (H.Gt 1 z) z)) (vm v4 (vm v7 ?_))))))))⟩
 obtain⟨x8,E9,E⟩:=ay E
 refine ye (au Hm z ((oG.calls (H.Gt 0 z) (H.cb 2 0 z z z (ao (H.Gt 2 z))) (H.cb 3 0 z z z (ao (H.Gt 3 z))) E9).mono ?_))
 rintro _ w ⟨v1,rfl,K⟩
 have H:=H.aV 0 z K
 refine⟨_,z,va v4 (va v7 (va v1 (nl (aj ?_))))⟩
 cases E
 exact⟨.inl z,_,tk0 z ⟨aB z (ad (ad (ad ai))),_,_,_,z,H.ag [0,2,3,4] z z⟩⟩
def jV.f(a0:List Int)(a1:Int):Option (Int):=bif decide (a1<0)then(some 0)else(bif decide ((a0.length:Int)≤a1)then(some 0)else(an (decide ((0:Int)≤a1∧a1<(a0.length:Int))) (some (at_ 0 a0 a1))))
theorem jV.calls{w0:World}{a0:List Int}{a1:Int}{v0_:Value}{r:Int}(h0:Rd (.of (.int .u8)) w0 (Ol no w0) v0_ a0)(E:jV.f a0 a1=some r):
 Calls aa 270 #[v0_,ii a1] w0 fun e w'=>e= .returned (iu r)∧St no w0 w' []:=by
 have H:=St.nil no w0
 unfold jV.f at E
 refine aP (N:=17) (args:=[v0_,ii a1]) Tryz.func270 z z (by simp) ?_
 refine rg (va (iu 0) (nl (ae (rg (vm (ii a1) (vr (aZ z z) (vm (.bool (decide (a1<0))) ?_)))))))
 rcases bR (decide (a1<0))with c1|c1
 ·have E:=iT c1 E
  refine ow c1 z (ow c1 z (ow c1 z (ow c1 z (vr (pT (.bool true) z z c1) (nl (cl z (rg (va (iu 0) (nl (aj ?_))))))))))
  cases E
  exact(aL ⟨.inl z,_,tk0 z ⟨aB z (ad ai),z,H.bs⟩⟩)
 ·have E:=iF c1 E
  refine oo c1 z (mv (ii a1) z) (oo c1 z (mv v0_ z) (oo c1 z (aY bI (H.rd h0) z) (oo c1 z (dq z z) (vr (pF (.bool (decide ((a0.length:Int)≤a1))) z z c1) (nl ?_)))))
  refine aE E z (fun c2 E=>?_) (fun c2 E=>?_)
  ·refine rg (va (iu 0) (nl (aj ?_)))
   cases E
   exact(aL ⟨.inl z,_,tk0 z ⟨aB z (ad ai),z,H.bs⟩⟩)
  ·refine aA (ab (rg (vm v0_ (vm (ii a1) ?_))))
   obtain⟨⟨g3,g4⟩,E⟩:=ar E
   refine vr (bo aN (H.rd h0) z z g3 g4) (vr (bq bC (H.rd h0) g3 g4 z) (va (iu (at_ 0 a0 a1)) (nl (aj ?_))))
   cases E
   exact⟨.inl z,_,tk0 z ⟨aB z (ad ai),z,H.bs⟩⟩
def jk.l0:Nat→List Int→Int→List Int→Int→Int→Int→Option (Int)
 |0,_,_,_,_,_,_=>none
 |k+1,a1,a2,a3,a4,x9,x1=>bif decide (x1<a2)then((jV.f a1 (i64.wrap (x1+1))).bind fun x2=>(jV.f a3 (i64.wrap ((i64.wrap (a4-x1))-1))).bind fun x3=>(gp.f x2 x3).bind fun x4=>jk.l0 k a1 a2 a3 a4 (bits .xor .u8 x9 x4) (i64.wrap (x1+1)))else(some x9)
def jk.f(k:Nat)(a1:List Int)(a2:Int)(a3:List Int)(a4:Int):Option (Int):=jk.l0 k a1 a2 a3 a4 0 0
theorem jk.calls{w0:World}{k:Nat}{F_:FD}{a1:List Int}{a2:Int}{a3:List Int}{a4:Int}{v1_ v3_:Value}{r:Int}(hf:(Rs.ah F_).inv w0)(h1:Rd (.of (.int .u8)) w0 (Ol (Rs.ah F_).fp w0) v1_ a1)(h3:Rd (.of (.int .u8)) w0 (Ol (Rs.ah F_).fp w0) v3_ a3)(E:jk.f k a1 a2 a3 a4=some r):
 Calls aa 262 #[pt F_.p,v1_,ii a2,v3_,ii a4] w0 fun e w'=>e= .returned (iu r)∧St (Rs.ah F_).fp w0 w' [.ah F_]:=by
 have H:=St.start hf
 unfold jk.f at E
 refine aP (N:=33) (args:=[pt F_.p,v1_,ii a2,v3_,ii a4]) Tryz.func262 z z (by simp) ?_
 refine rg (va (iu 0) (nl (rg (va (iu 0) (nl (ae (rg (vm (ii a2) (vm (ii 0) (nl (aG ?_)))))))))))
 refine bx (fun kk t w=>∃(x9 x1:Int)(t1:Fr),kk≤k∧jk.l0 kk a1 a2 a3 a4 x9 x1=some r∧t=aU t1 [(0,pt F_.p),(1,v1_),(3,v3_),(4,ii a4),(10,iu 0),(11,iu x9),(13,ii a2),(14,ii x1),(1000000,undef)]∧St (Rs.ah F_).fp w0 w [.ah F_]) k ?_ ?_
 ·exact⟨_,_,_,aI _,E,aD ⟨z,z,z,z,z,z,z,z,z,trivial⟩,H⟩
 rintro kk t w ⟨x9,x1,t1,hk1,E,rfl,H⟩
 obtain⟨k19,rfl⟩|rfl:=ks kk
 rotate_left
 ·cases E
 rw[jk.l0]at E
 refine rg (vr (aZ z z) (nl (ae ?_)))
 refine aE E z (fun c1 E=>?_) (fun c1 E=>?_)
 ·refine aA (ab (ae (aG (rg (vm (ii x1) (va (ii x1) (nl (aH (vm (iu x9) (vm (pt F_.p) (vm v1_ (vm (ii x1) (vr (aO z z) ?_)))))))))))))
  obtain⟨x2,E1,E⟩:=ay E
  refine ye (au vo z ((jV.calls (H.arg (H.rd h1)) E1).mono ?_))
  rintro _ w ⟨rfl,K⟩
  have H:=H.app K
  refine⟨_,z,vm v3_ (vm (ii a4) (vm (ii x1) (vr (bV z z) (vr (bV z z) ?_))))⟩
  obtain⟨x3,E2,E⟩:=ay E
  refine ye (au vo z ((jV.calls (H.arg (H.rd h3)) E2).mono ?_))
  rintro _ w ⟨rfl,K⟩
  have H:=H.app K
  refine⟨_,z,?_⟩
  obtain⟨x4,E3,E⟩:=ay E
  refine ye (au pg z ((gp.calls (H.Gt 0 z) E3).mono ?_))
  rintro _ w ⟨rfl,K⟩
  have H:=H.aV 0 z K
  refine⟨_,z,vr (ij z z) (va (iu (bits .xor .u8 x9 x4)) (aK (aR (ab (aH (vr (aO z z) (vm (ii (i64.wrap (x1+1))) (aK ?_))))))))⟩
  exact⟨k19,bL _,_,_,_,bK hk1,E,aD ⟨z,z,z,z,z,z,z,z,z,trivial⟩,H⟩
 ·refine bt (aM (aM (bu (ab (rg (vm (iu x9) (va (iu x9) (nl (aj ?_)))))))))
  cases E
  exact⟨.inl z,_,tk0 z ⟨aB z (ad ai),z,H.bA 0 z⟩⟩
end Go.Proofs.YtmhkpafkadijgaaGreatDoor.Gw
