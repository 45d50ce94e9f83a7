/- A part of the proof of Rows.PlayDecodesCardSaid; the conditions are that card's own. -/
import Derived.Test.YtmhkpafkadijgaaGreatDoorQ19
set_option linter.all false
set_option maxRecDepth 100000
set_option maxHeartbeats 4000000
namespace Go.Proofs.YtmhkpafkadijgaaGreatDoor.Gw
open Go.IntKind renaming wrap→I,i64→W
open Go Go.RowKit
variable[de]
open Go.IntKind (i8 i16 i32 i64 u8 u16 u32 u64)
open Tryz hiding prog
open Tryz renaming prog → aa
variable{w0:World}{k:Nat}{F_:FD}{v0_4_ v0_5_ v1_ v1_2_ v2_ v3_:Value}
mutual
def dF.l0:Nat→((Int×Int×List Int)×List Int)→List (List Int)→Int→Option (List (List Int))
 |0,_,_,_=>none
 |k+1,x2,l1,x1=>bif decide (x1<x2.1.2.1)then((jb.f k x2.2 x1).bind fun x3=>bif x3 then(dF.l0 k x2 l1 (I W (x1+1)))else(an (decide ((0:Int)≤x2.1.2.1∧x2.1.2.1≤x2.1.2.1∧x2.1.2.1≤140737488355328)) (an (decide ((0:Int)≤x1∧x1<((List.replicate x2.1.2.1.toNat (0:Int)).length:Int))) (dF.l1 k x2 l1 x1 ((List.replicate x2.1.2.1.toNat (0:Int)).set x1.toNat 1) 0))))else(some l1)
def dF.l1:Nat→((Int×Int×List Int)×List Int)→List (List Int)→Int→List (Int)→Int→Option (List (List Int))
 |0,_,_,_,_,_=>none
 |k+1,x2,l1,x1,l2,x4=>bif decide (x4<(x2.2.length:Int))then(an (decide ((0:Int)≤x4∧x4<(x2.2.length:Int))) (an (decide ((0:Int)≤I W (I W (x4*x2.1.2.1)+x1)∧I W (I W (x4*x2.1.2.1)+x1)<(x2.1.2.2.length:Int))) (an (decide ((0:Int)≤at_ 0 x2.2 x4∧at_ 0 x2.2 x4<(l2.length:Int))) (dF.l1 k x2 l1 x1 (l2.set (at_ 0 x2.2 x4).toNat (at_ 0 x2.1.2.2 (I W (I W (x4*x2.1.2.1)+x1)))) (I W (x4+1))))))else(an (decide ((l1.length+1)*24≤140737488355328)) (dF.l0 k x2 (l1++[l2]) (I W (x1+1))))
end
def dF.f(k:Nat)(a1:Int×Int×List Int):Option (List (List Int)):=(bH.f k (a1.1,a1.2.1,a1.2.2)).bind fun x2=>dF.l0 k x2 ([]:List (List Int)) 0
theorem dF.calls{a1:Int×Int×List Int}{r:List (List Int)}(hf:(Rs.ah F_).inv w0)(h1_2:Zg F_ w0 v1_2_ a1.2.2)(E:dF.f k a1=some r):
 Calls aa 318 #[pt F_.p,.agg #[ii a1.1,ii a1.2.1,v1_2_]] w0 fun e w'=>∃(u0:Value)(us0:List Sv),e= .returned (u0)∧St (Rs.ah F_).fp w0 w' [.ah F_,.rows (.int .u8) 5 22 u0 us0 r]:=by
 have H:=St.start hf
 unfold dF.f at E
 refine Zb func318 ?_
 refine rg (ye (bc (cs:=#[ii a1.1,ii a1.2.1,v1_2_]) H z (fun b1 w H=>A_ ?_)))
 refine vr (bp (l:=[ii a1.1,ii a1.2.1,v1_2_]) jD (H.Gt 1 z) z z z) ?_
 obtain⟨x2,E3,E⟩:=ay E
 refine ye (au HT z ((bH.calls (H.Gt 0 z) (H.cj 0 z (H.rd h1_2)) E3).mono ?_))
 rintro _ w ⟨v4,v5,rfl,K⟩
 have H:=H.aV 0 z K
 refine⟨_,z,A_ ?_⟩
 refine ye (cr ra H (fun b6 w H=>?_))
 obtain⟨p7,n8,c9,rfl⟩:=bX (H.Gt 2 z)
 refine s_ (cy lA H 4 z z z z z z (fun w H=>A_ ?_))
 have H:=H.BK (.int .u8) 5 22
 refine bx (fun kk t w=>∃(l1:List (List Int))(x1:Int)(v1:Value)(us1:List Sv)(t1:Fr),kk≤k∧dF.l0 kk x2 l1 x1=some r∧t=aU t1 [(4,sn),(5,pt b6),(6,v5),(7,v1),(19,ii x2.1.2.1),(20,ii x1),Zc]∧St (Rs.ah F_).fp w0 w [.ah F_,.blk b1 #[ii a1.1,ii a1.2.1,v1_2_] 88,Y9 (.slice p7 n8 c9) x2.1.2.2,Zh v5 x2.2,.blk b6 #[ii x2.1.1,ii x2.1.2.1,(.slice p7 n8 c9)] 88,.rows (.int .u8) 5 22 v1 us1 l1]) k Ze ?_
 rintro kk t w ⟨l1,x1,v1,us1,t1,hk1,E,rfl,H⟩
 obtain⟨k1,rfl⟩:=Zd kk
 rw[dF.l0]at E
 refine A_ ?_
 refine aE E z ?_ ?_<;>intro c1 E<;>refine A_ ?_
 ·refine ye (E9 vk H E (fun _=>jb.calls (H.own 3 z (ao (H.Gt 3 z)))) (fun x3 E w H=>nl ?_))
  refine aE E z ?_ ?_<;>intro c2 E<;>refine A_ ?_
  ·exact⟨k1,bL _,_,_,_,_,_,bK hk1,E,Za,H⟩
  obtain⟨⟨g1,g2,g3⟩,E⟩:=ar E
  refine ye (ee (e:=(.int .u8)) (z0:=0) aN z H z z g1 g2 a_ a_ (fun v2 w H=>A_ ?_))
  obtain⟨⟨g4,g5⟩,E⟩:=ar E
  refine A_ ?_
  refine s_ (dc dB H 6 z g4 g5 z z (fun w H=>A_ ?_))
  refine bx (fun kk t w=>∃(l2:List Int)(x4:Int)(t2:Fr),kk≤k1∧dF.l1 kk x2 l1 x1 l2 x4=some r∧t=aU t2 [(4,sn),(5,pt b6),(6,v5),(7,v1),(8,ii x1),(9,v2),(19,ii x2.1.2.1),(20,ii x1),(32,v5),(33,ii (x2.2.length:Int)),(34,ii x4),Zc]∧St (Rs.ah F_).fp w0 w [.ah F_,.blk b1 #[ii a1.1,ii a1.2.1,v1_2_] 88,Y9 (.slice p7 n8 c9) x2.1.2.2,Zh v5 x2.2,.blk b6 #[ii x2.1.1,ii x2.1.2.1,(.slice p7 n8 c9)] 88,.rows (.int .u8) 5 22 v1 us1 l1,Y9 v2 l2]) k1 Ze ?_
  rintro kk t w ⟨l2,x4,t2,hk2,E,rfl,H⟩
  obtain⟨k2,rfl⟩:=Zd kk
  rw[dF.l1]at E
  refine A_ ?_
  refine aE E z ?_ ?_<;>intro c3 E<;>refine A_ ?_
  ·obtain⟨⟨g6,g7⟩,E⟩:=ar E
   refine A_ ?_
   obtain⟨⟨g8,g9⟩,E⟩:=ar E
   refine A_ ?_
   obtain⟨⟨g10,g11⟩,E⟩:=ar E
   refine A_ ?_
   refine s_ (dc dB H 6 z g10 g11 z z (fun w H=>A_ ?_))
   exact⟨k2,bL _,_,_,_,bK hk2,E,Za,H⟩
  obtain⟨p1,n1,c4,rfl⟩:=bX (H.Gt 6 z)
  refine ye (oO (l:=[(.slice p1 n1 c4)]) ko H z f_ ⟨z,z,z,acu⟩ f_ (fun b2 w H=>?_))
  obtain⟨g12,E⟩:=ar E
  refine ye (D7 ko H 5 6 z z z (Bm (H.Gt 7 z)) z z g12 u_ (fun v3 us2 w H=>A_ ?_))
  exact⟨k2,a_,_,_,_,_,_,a_,E,Za,H.Y8 [0,1,2,3,4,5]⟩
 cases E
 exact⟨.inl z,_,tk0 z ⟨aB z (ad ai),_,_,z,H.bN 0 5 z z z⟩⟩
def oq.f(k:Nat)(a1 a2:List Int):Option (List Int×Bool):=(cU.f k a1 a2).bind fun x1=>bif !x1.2.2 then(some (([]:List Int),false))else(bif decide (0<(x1.2.1.length:Int))then(some (([]:List Int),false))else(some (x1.1,true)))
theorem oq.calls{a1 a2:List Int}{r:List Int×Bool}(hf:(Rs.ah F_).inv w0)(h1:Zg F_ w0 v1_ a1)(h2:Zg F_ w0 v2_ a2)(E:oq.f k a1 a2=some r):
 Calls aa 319 #[pt F_.p,v1_,v2_] w0 fun e w'=>∃(u0:Value),e= .returned (.tuple #[u0,.bool r.2])∧St (Rs.ah F_).fp w0 w' [.ah F_,Y9 u0 r.1]:=by
 have H:=St.start hf
 unfold oq.f at E
 refine Zb func319 ?_
 refine A_ ?_
 obtain⟨x1,E2,E⟩:=ay E
 refine ye (au zl z ((cU.calls (H.Gt 0 z) (H.cj 0 z (H.rd h1)) (H.cj 0 z (H.rd h2)) E2).mono ?_))
 rintro _ w ⟨v3,v4,rfl,K⟩
 have H:=H.aV 0 z K
 refine⟨_,z,A_ ?_⟩
 rcases bR (!x1.2.2)with c5|c5
 ·have E:=iT c5 E
  refine A_ ?_
  have H:=H.bB (.int .u8) 5
  cases E
  exact(aL ⟨.inl z,_,tk0 z ⟨aB z (ad (ad ai)),_,z,H.bN 0 3 z z z⟩⟩)
 have E:=iF c5 E
 refine A_ ?_
 refine aE E z ?_ ?_<;>intro c6 E<;>refine A_ ?_
 ·have H:=H.bB (.int .u8) 5
  cases E
  exact(aL ⟨.inl z,_,tk0 z ⟨aB z (ad (ad ai)),_,z,H.bN 0 3 z z z⟩⟩)
 cases E
 exact⟨.inl z,_,tk0 z ⟨aB z (ad (ad ai)),_,z,H.bN 0 1 z z z⟩⟩
def fl.j0(k:Nat)(l1:List (List Int))(x1 x2:Int):Option (List Int×Bool):=(eK.f k l1).bind fun x3=>bif !x3.2 then(some (([]:List Int),false))else((dF.f k (x3.1.1,x3.1.2.1,x3.1.2.2)).bind fun x4=>bif decide ((x4.length:Int)=0)then(some (([]:List Int),false))else(an (decide ((0:Int)≤0∧0<(x4.length:Int))) (an (decide ((0:Int)≤I W (x1+x2)∧I W (x1+x2)≤((at_ [] x4 0).length:Int))) (an (decide ((0:Int)≤0∧0<(x4.length:Int))) (an (decide ((0:Int)≤I W (x1+x2)∧I W (x1+x2)≤((at_ [] x4 0).length:Int))) ((oq.f k (((at_ [] x4 0).take ((I W (x1+x2)).toNat)).drop 0) (((at_ [] x4 0).take ((at_ [] x4 0).length)).drop ((I W (x1+x2)).toNat))).bind fun x5=>some (x5.1,x5.2)))))))
def fl.l0:Nat→List Int→List Int→Int→Int→List (List Int)→Int→Option (List Int×Bool)
 |0,_,_,_,_,_,_=>none
 |k+1,a1,a2,a3,a4,l1,x1=>bif decide (x1<(a1.length:Int))then(an (decide ((0:Int)≤x1∧x1<(a1.length:Int))) ((gD.f k (at_ 0 a1 x1) (I W (a3+a4))).bind fun x2=>an (decide ((0:Int)≤x1∧x1<(a2.length:Int))) ((gD.f k (at_ 0 a1 x1) (I W (a4+1))).bind fun x3=>(gn.f k (at_ 0 a2 x1) x3).bind fun x4=>(oM.f k ([x2,x4])).bind fun x5=>an (decide ((l1.length+1)*24≤140737488355328)) (fl.l0 k a1 a2 a3 a4 (l1++[x5]) (I W (x1+1))))))else(fl.j0 k l1 a3 a4)
def fl.f(k:Nat)(a1 a2:List Int)(a3 a4:Int):Option (List Int×Bool):=fl.l0 k a1 a2 a3 a4 ([]:List (List Int)) 0
theorem fl.calls{a1 a2:List Int}{a3 a4:Int}{r:(List Int×Bool)}(hf:(Rs.ah F_).inv w0)(h1:Rd (.of (.int .u8)) w0 (Ol (Rs.ah F_).fp w0) v1_ a1)(h2:Rd (.of (.int .u8)) w0 (Ol (Rs.ah F_).fp w0) v2_ a2)(E:fl.f k a1 a2 a3 a4=some r):
 Calls aa 277 #[pt F_.p,v1_,v2_,ii a3,ii a4] w0 fun e w'=>∃(u0_0:Value),e= .returned (.agg #[u0_0,.bool r.2])∧St (Rs.ah F_).fp w0 w' [.ah F_,.own (.int .u8) 5 u0_0 r.1]:=by
 have H:=St.start hf
 unfold fl.f at E
 refine aP (N:=87) (args:=[pt F_.p,v1_,v2_,ii a3,ii a4]) Tryz.func277 z z j_ ?_
 refine rg (ye (cr zJ H (fun b1 w H=>nl (rg (va sn (nl ?_))))))
 refine cA (fun t w=>∃(k1:Nat)(l1:List (List Int))(x1 x2:Int)(v1:Value)(us1:List Sv)(t1:Fr),k1≤k∧fl.j0 k1 l1 x1 x2=some r∧t=aU t1 [(0,pt F_.p),(3,ii x1),(4,ii x2),(10,pt b1),(11,v1),(1000000,undef)]∧St (Rs.ah F_).fp w0 w [.ah F_,.blk b1 #[sn,.bool false] 363,.rows (.int .u8) 5 22 v1 us1 l1]) ?_ ?_
 ·refine rg (vm v1_ (vr (aY bI (H.rd h1) z) (vm (ii 0) (nl (aG ?_)))))
  have H:=H.BK (.int .u8) 5 22
  refine bx (fun kk t w=>∃(l2:List (List Int))(x3:Int)(v2:Value)(us2:List Sv)(t2:Fr),kk≤k∧fl.l0 kk a1 a2 a3 a4 l2 x3=some r∧t=aU t2 [(0,pt F_.p),(2,v2_),(3,ii a3),(4,ii a4),(10,pt b1),(11,v2),(19,v1_),(20,ii (a1.length:Int)),(21,ii x3),(1000000,undef)]∧St (Rs.ah F_).fp w0 w [.ah F_,.blk b1 #[sn,.bool false] 363,.rows (.int .u8) 5 22 v2 us2 l2]) k ?_ ?_
  ·exact⟨_,_,_,_,_,aI _,E,aD ⟨z,z,z,z,z,z,z,z,z,z,acu⟩,H⟩
  rintro kk t w ⟨l2,x3,v2,us2,t2,hk1,E,rfl,H⟩
  obtain⟨k2,rfl⟩|rfl:=ks kk
  rotate_left
  ·cases E
  rw[fl.l0]at E
  refine rg (vr (aZ z z) (nl (ae ?_)))
  refine aE E z (fun c1 E=>?_) (fun c1 E=>?_)
  ·refine aA (ab (ae (aG (rg (vm (ii x3) ?_)))))
   obtain⟨⟨g1,g2⟩,E⟩:=ar E
   refine vr (bo aN (H.rd h1) z z g1 g2) (vr (bq bC (H.rd h1) g1 g2 z) (va (ii x3) (va (iu (at_ 0 a1 x3)) (nl (rg (vm (pt F_.p) (vm (iu (at_ 0 a1 x3)) (vm (ii a3) (vm (ii a4) (vr (aO z z) ?_))))))))))
   refine ye (YN zx H 0 E z (fun _ h=>gD.calls (H.Gt 0 z) h) (fun x4 E v3 w H=>va v3 (nl (eZ (ds:=[]) (fun w=>∃(v':Value)(us':List Sv)(l':List (List Int)),St (Rs.ah F_).fp w0 w [.ah F_,.blk b1 #[sn,.bool false] 363,.rows (.int .u8) 5 22 v' us' l',.own (.int .u8) 5 v3 x4]) bZ H z z ?_))))
   have H:=H.drew
   refine wm 0 z ⟨_,_,_,H⟩ v2 (wm 1 z ⟨_,_,_,H⟩ v3 (wm 2 z ⟨_,_,_,H⟩ (pt F_.p) (wm 3 z ⟨_,_,_,H⟩ v2_ (wm 4 z ⟨_,_,_,H⟩ (ii x3) ?_))))
   obtain⟨⟨g3,g4⟩,E⟩:=ar E
   refine wz 5 z ⟨_,_,_,H⟩ (fun w ⟨v',us',l',H⟩=>bo aN (H.rd h2) z z g3 g4) (wz 6 z ⟨_,_,_,H⟩ (fun w ⟨v',us',l',H⟩=>bq bC (H.rd h2) g3 g4 z) (wm 7 z ⟨_,_,_,H⟩ (pt F_.p) (wm 8 z ⟨_,_,_,H⟩ (iu (at_ 0 a1 x3)) (wm 9 z ⟨_,_,_,H⟩ (ii a4) (wg 10 z ⟨_,_,_,H⟩ (aO z z) ?_)))))
   refine wo 11 z (YN zx H 0 E z (fun _ h=>gD.calls (H.Gt 0 z) h) (fun x5 E v4 w H=>⟨fun _=>⟨_,_,_,H.ag [0,1,2,3] z z⟩,?_⟩))
   refine wo 12 z (YN ph H 0 E z (fun _ h=>gn.calls (H.Gt 0 z) (H.cb 4 0 z z z (ao (H.Gt 4 z))) h) (fun x6 E v5 w H=>⟨fun _=>⟨_,_,_,H.ag [0,1,2,3] z z⟩,?_⟩))
   obtain⟨p1,n1,c2,rfl⟩:=bX (H.Gt 3 z)
   obtain⟨p2,n2,c3,rfl⟩:=bX (H.Gt 5 z)
   refine wo 13 z (oO (l:=[(.slice p1 n1 c2),(.slice p2 n2 c3)]) ko H z f_ ⟨z,z,z,z,z,z,acu⟩ f_ (fun b2 w H=>⟨fun _=>⟨_,_,_,H.ag [0,1,2,3] z z⟩,?_⟩))
   refine wo 14 z (YM HF H E (fun _ h=>oM.calls (OW (ls:=[x4,x6]) H 6 z z z ⟨H.own 3 z (ao (H.Gt 3 z)),H.own 5 z (ao (H.Gt 5 z)),acu⟩) h) (fun x7 E v6 w H=>⟨fun _=>⟨_,_,_,H.ag [0,1,2,3] z z⟩,?_⟩))
   have H:St _ _ _ [_,_,_,_,_,_,_,_]:=H
   obtain⟨p3,n3,c4,rfl⟩:=bX (H.Gt 7 z)
   refine wo 15 z (oO (l:=[(.slice p3 n3 c4)]) ko H z f_ ⟨z,z,z,acu⟩ f_ (fun b3 w H=>⟨fun _=>⟨_,_,_,H.ag [0,1,2,3] z z⟩,?_⟩))
   obtain⟨g5,E⟩:=ar E
   refine wo 16 z (D7 ko H 2 7 z z z (Bm (H.Gt 8 z)) z z g5 u_ (fun v7 us3 w H=>⟨fun _=>⟨_,_,_,H.ag [0,1,2,3] z z⟩,wg 17 z ⟨_,_,_,H.ag [0,1,2,3] z z⟩ (sg v7 z) (wd (aR (ab (aH (vr (aO z z) (vm (ii (I W (x3+1))) (aK ?_)))))))⟩))
   exact⟨k2,bL _,_,_,_,_,_,bK hk1,E,aD ⟨z,z,z,z,z,z,z,z,z,z,acu⟩,H.ag [0,1,2] z z⟩
  refine bt (aM (aM (bu ?_)))
  exact⟨k2,_,_,_,_,_,_,a_,E,aD ⟨z,z,z,z,z,z,acu⟩,H⟩
 rintro t w ⟨k1,l1,x1,x2,v1,us1,t1,hk2,E,rfl,H⟩
 unfold fl.j0 at E
 refine rg (vm v1 ?_)
 refine ye (YM HG H E (fun _ h=>eK.calls (H.own 2 z (uy (H.Gt 2 z))) h) (fun x8 E v8 w H=>vr cz (vr (aX z z) (vr (aX z z) (ye (cr ra H (fun b4 w H=>?_)))))))
 obtain⟨p4,n4,c5,rfl⟩:=bX (H.Gt 3 z)
 refine s_ (cy lA H 4 z z z z z z (fun w H=>va (.bool x8.2) (nl (ae (rg (vm (.bool x8.2) (vr (cp z) (nl ?_))))))))
 refine aE E z (fun c6 E=>?_) (fun c6 E=>?_)
 ·refine rg (vr (cf (cs:=[sn,.bool false]) vd z) (s_ (cy sS H 1 z z z z z z (fun w H=>nl (aj ?_)))))
  have H:=H.bB (.int .u8) 5
  cases E
  exact(aL ⟨.inl z,_,tk0 z ⟨aB z (dL z vb (eG (n:=2) (H.Gt 1 z) z) z ai),_,z,H.bN 0 5 z z z⟩⟩)
 refine aA (ab (rg (vm (pt F_.p) (vr (bp (l:=[ii x8.1.1,ii x8.1.2.1,(.slice p4 n4 c5)]) jD (H.Gt 4 z) z z z) ?_))))
 obtain⟨x9,E6,E⟩:=ay E
 refine ye (au HH z ((dF.calls (H.Gt 0 z) (H.cb 3 0 z z z (ao (H.Gt 3 z))) E6).mono ?_))
 rintro _ w ⟨v9,us4,rfl,K⟩
 have H:=H.aV 0 z K
 refine⟨_,z,va v9 (nl (ae (rg (vm v9 (vr (aY nF (uy (H.Gt 5 z)) z) (vr (cg z z) (nl ?_)))))))⟩
 refine aE E z (fun c7 E=>?_) (fun c7 E=>?_)
 ·refine rg (vr (cf (cs:=[sn,.bool false]) vd z) (s_ (cy sS H 1 z z z z z z (fun w H=>nl (aj ?_)))))
  have H:=H.bB (.int .u8) 5
  cases E
  exact(aL ⟨.inl z,_,tk0 z ⟨aB z (dL z vb (eG (n:=2) (H.Gt 1 z) z) z ai),_,z,H.bN 0 6 z z z⟩⟩)
 refine aA (ab (ae (cd (ds:=[]) bZ H z z ?_)))
 have H:=H.drew
 refine wm 0 z H (pt F_.p) (wm 1 z H v9 ?_)
 obtain⟨⟨g6,g7⟩,E⟩:=ar E
 refine wz 2 z H (fun w H=>bo ko (uy (H.Gt 5 z)) z z g6 g7) (wz 3 z H (fun w H=>CG bQ (H.Gt 5 z) g6 g7 z) (wm 4 z H (ii x1) (wm 5 z H (ii x2) (wg 6 z H (aO z z) ?_))))
 obtain⟨⟨g8,g9⟩,E⟩:=ar E
 have p5:0≤(I W (x1+x2)).toNat:=a_
 have p6:(I W (x1+x2)).toNat≤(at_ [] x9 0).length:=a_
 refine wz 7 z H (fun w H=>fU aN (uw (H.Gt 5 z) g6 g7) z z g8 g9) (wm 8 z H v9 ?_)
 obtain⟨⟨g10,g11⟩,E⟩:=ar E
 refine wz 9 z H (fun w H=>bo ko (uy (H.Gt 5 z)) z z g10 g11) (wz 10 z H (fun w H=>CG bQ (H.Gt 5 z) g10 g11 z) (wm 11 z H (ii x1) (wm 12 z H (ii x2) (wg 13 z H (aO z z) ?_))))
 obtain⟨⟨g12,g13⟩,E⟩:=ar E
 have p7:(I W (x1+x2)).toNat≤(at_ [] x9 0).length:=a_
 have p8:(at_ [] x9 0).length≤(at_ [] x9 0).length:=a_
 refine wz 14 z H (fun w H=>iW aN (uw (H.Gt 5 z) g10 g11) z z g12 g13) ?_
 refine wo 15 z (YN HI H 0 E z (fun _ h=>oq.calls (H.Gt 0 z) (H.cb 5 0 z z z (Rd.bz (uw (H.Gt 5 z) g6 g7) p5 p6)) (H.cb 5 0 z z z (Rd.bz (uw (H.Gt 5 z) g10 g11) p7 p8)) h) (fun x10 E v10 w H=>⟨fun _=>H.ag [0,1,2,3,4,5] z z,?_⟩))
 have H:St _ _ _ [_,_,_,_,_,_,_]:=H
 refine wg 16 z (H.ag [0,1,2,3,4,5] z z) cz (wg 17 z (H.ag [0,1,2,3,4,5] z z) (aX z z) (wg 18 z (H.ag [0,1,2,3,4,5] z z) (aX z z) (wy 19 z (H.ag [0,1,2,3,4,5] z z) (sg v10 z) (wg 20 z (H.ag [0,1,2,3,4,5] z z) (sg (.bool x10.2) z) (wd (ab (rg (vm v10 (vm (.bool x10.2) ?_)))))))))
 obtain⟨p9,n5,c8,rfl⟩:=bX (H.Gt 6 z)
 refine vr (cf (cs:=[(.slice p9 n5 c8),.bool x10.2]) vd z) (s_ (cy sS H 1 z z z z z z (fun w H=>nl (aj ?_))))
 cases E
 exact⟨.inl z,_,tk0 z ⟨aB z (dL z vb (eG (n:=2) (H.Gt 1 z) z) z ai),_,z,H.bN 0 6 z z z⟩⟩
def gV.l0:Nat→List Int→List Int→List Int→Int→Int→Option (Int)
 |0,_,_,_,_,_=>none
 |k+1,a1,a2,a3,x1,x2=>bif decide (x2<min2 (a2.length:Int) (a3.length:Int))then(an (decide ((0:Int)≤x2∧x2<(a2.length:Int))) (an (decide ((0:Int)≤x2∧x2<(a3.length:Int))) ((fK.f k a1 (at_ 0 a2 x2)).bind fun x3=>bif !decide (x3=at_ 0 a3 x2)then(gV.l0 k a1 a2 a3 (I W (x1+1)) (I W (x2+1)))else(gV.l0 k a1 a2 a3 x1 (I W (x2+1))))))else(some x1)
def gV.f(k:Nat)(a1 a2 a3:List Int):Option (Int):=gV.l0 k a1 a2 a3 0 0
theorem gV.calls{a1 a2 a3:List Int}{r:Int}(hf:(Rs.ah F_).inv w0)(h1:Zg F_ w0 v1_ a1)(h2:Zg F_ w0 v2_ a2)(h3:Zg F_ w0 v3_ a3)(E:gV.f k a1 a2 a3=some r):
 Calls aa 278 #[pt F_.p,v1_,v2_,v3_] w0 fun e w'=>e= .returned (ii r)∧St (Rs.ah F_).fp w0 w' [.ah F_]:=by
 have H:=St.start hf
 unfold gV.f at E
 refine Zb func278 ?_
 refine A_ ?_
 refine bx (fun kk t w=>∃(x1 x2:Int)(t1:Fr),kk≤k∧gV.l0 kk a1 a2 a3 x1 x2=some r∧t=aU t1 [(0,pt F_.p),(1,v1_),(2,v2_),(3,v3_),(8,ii 0),(9,ii x1),(17,ii (min2 (a2.length:Int) (a3.length:Int))),(18,ii x2),Zc]∧St (Rs.ah F_).fp w0 w [.ah F_]) k Ze ?_
 rintro kk t w ⟨x1,x2,t1,hk1,E,rfl,H⟩
 obtain⟨k21,rfl⟩:=Zd kk
 rw[gV.l0]at E
 refine A_ ?_
 refine aE E z ?_ ?_<;>intro c1 E<;>refine A_ ?_
 ·refine cd (ds:=[]) bZ H z z ?_
  have H:=H.drew
  refine B_ [0,1,2,3] H ?_
  obtain⟨⟨g1,g2⟩,E⟩:=ar E
  refine B_ [4,5,7,8] H ?_
  obtain⟨⟨g3,g4⟩,E⟩:=ar E
  refine B_ [9,10] H ?_
  refine wo 6 z (YL vg H 0 E z (fun _=>fK.calls (H.Gt 0 z) (H.cj 0 z (H.rd h1))) (fun x3 E w H=>⟨fun _=>H.Y8 [0],B_ [11] (H.Y8 [0]) ?_⟩))
  refine aE E z ?_ ?_<;>intro c2 E<;>refine A_ ?_
  ·exact⟨k21,bL _,_,_,_,bK hk1,E,Za,H⟩
  exact⟨k21,bL _,_,_,_,bK hk1,E,Za,H⟩
 cases E
 exact⟨.inl z,_,tk0 z ⟨aB z (ad ai),z,H.bA 0 z⟩⟩
def cG.j0(l0r:List Int→List Int→Int→List (Int)→Int→Option (List Int×Bool))(k:Nat)(a1 a2:List Int)(a3:Int)(x1:Bool):Option (List Int×Bool):=bif x1 then(some (([]:List Int),false))else(l0r a1 a2 a3 ([]:List Int) 0)
def cG.j1(k:Nat)(a1 a2:List Int)(a3:Int)(x1:(Unit)×List Int):Option (List Int×Bool):=bif decide ((x1.2.length:Int)<(a1.length:Int))then(some (([]:List Int),false))else((fl.f k a1 a2 a3 (I W (Int.tdiv (I W ((a1.length:Int)-a3)) 2))).bind fun x2=>bif !x2.2 then(some (([]:List Int),false))else((eN.f k x2.1).bind fun x3=>bif decide (a3≤x3)then(some (([]:List Int),false))else((gV.f k x2.1 a1 a2).bind fun x4=>bif decide (I W (Int.tdiv (I W ((a1.length:Int)-a3)) 2)<x4)then(some (([]:List Int),false))else(some (x2.1,true)))))
mutual
def cG.l0:Nat→List Int→List Int→Int→List (Int)→Int→Option (List Int×Bool)
 |0,_,_,_,_,_=>none
 |k+1,a1,a2,a3,l1,x1=>bif decide (x1<(a1.length:Int))then(an (decide ((0:Int)≤x1∧x1<(a1.length:Int))) (an (decide ((l1.length+([at_ 0 a1 x1]).length)*1≤140737488355328)) (cG.l0 k a1 a2 a3 (l1++([at_ 0 a1 x1])) (I W (x1+1)))))else((dx.f (u64.wrap (l1.length:Int))).bind fun x2=>(bW.f k l1 0 (l1.length:Int) x2).bind fun x3=>bif decide ((x3.2.length:Int)<2)then(cG.j1 k a1 a2 a3 x3)else(cG.l1 k a1 a2 a3 x3 1))
def cG.l1:Nat→List Int→List Int→Int→((Unit)×List Int)→Int→Option (List Int×Bool)
 |0,_,_,_,_,_=>none
 |k+1,a1,a2,a3,x3,x4=>bif decide (x4<(x3.2.length:Int))then(an (decide ((0:Int)≤x4∧x4<(x3.2.length:Int))) (an (decide ((0:Int)≤I W (x4-1)∧I W (x4-1)<(x3.2.length:Int))) (bif decide (at_ 0 x3.2 x4=at_ 0 x3.2 (I W (x4-1)))then(none)else(cG.l1 k a1 a2 a3 x3 (I W (x4+1))))))else(cG.j1 k a1 a2 a3 x3)
end
def cG.f(k:Nat)(a1 a2:List Int)(a3:Int):Option (List Int×Bool):=bif decide (a3<1)then(cG.j0 (cG.l0 k) k a1 a2 a3 (decide (a3<1)))else(bif decide ((a1.length:Int)<a3)then(cG.j0 (cG.l0 k) k a1 a2 a3 (decide ((a1.length:Int)<a3)))else(bif !decide ((a2.length:Int)=(a1.length:Int))then(cG.j0 (cG.l0 k) k a1 a2 a3 (!decide ((a2.length:Int)=(a1.length:Int))))else(cG.j0 (cG.l0 k) k a1 a2 a3 (decide (255<(a1.length:Int))))))
theorem cG.calls{a1 a2:List Int}{a3:Int}{r:List Int×Bool}(hf:(Rs.ah F_).inv w0)(h1:Rd (.of (.int .u8)) w0 (Ol (Rs.ah F_).fp w0) v1_ a1)(h2:Rd (.of (.int .u8)) w0 (Ol (Rs.ah F_).fp w0) v2_ a2)(E:cG.f k a1 a2 a3=some r):
 Calls aa 224 #[pt F_.p,v1_,v2_,ii a3] w0 fun e w'=>∃(u0:Value),e= .returned (.tuple #[u0,.bool r.2])∧St (Rs.ah F_).fp w0 w' [.ah F_,.own (.int .u8) 5 u0 r.1]:=by
 have H:=St.start hf
 unfold cG.f at E
 refine aP (N:=71) (args:=[pt F_.p,v1_,v2_,ii a3]) Tryz.func224 z z j_ ?_
 refine rg (va sn (va (.bool false) (nl (ae (aG ?_)))))
 refine cA (fun t w=>∃(k1:Nat)(x1:Bool)(t1:Fr),k1≤k∧cG.j0 (cG.l0 k1) k1 a1 a2 a3 x1=some r∧t=aU t1 [(0,pt F_.p),(1,v1_),(2,v2_),(3,ii a3),(8,sn),(9,.bool false),(12,.bool x1),(1000000,undef)]∧St (Rs.ah F_).fp w0 w [.ah F_]) ?_ ?_
 ·refine rg (vm (pt F_.p) (vr (cV Tryz.underlying111 z z) (va (.bool false) (nl (bS z (rg (vm (ii a3) (vr (aZ z z) (va (.bool (decide (a3<1))) (nl ?_))))))))))
  refine aE E z (fun c1 E=>?_) (fun c1 E=>?_)
  ·refine aA ?_
   exact⟨k,_,_,aI _,E,aD ⟨z,z,z,z,z,z,z,z,acu⟩,H⟩
  refine rg (vm (ii a3) (vm v1_ (vr (aY bI (H.rd h1) z) (vr (dy z z) (va (.bool (decide ((a1.length:Int)<a3))) (nl ?_))))))
  refine aE E z (fun c2 E=>?_) (fun c2 E=>?_)
  ·refine aA ?_
   exact⟨k,_,_,aI _,E,aD ⟨z,z,z,z,z,z,z,z,acu⟩,H⟩
  refine rg (vm v2_ (vr (aY bI (H.rd h2) z) (vm v1_ (vr (aY bI (H.rd h1) z) (vr (cx z z) (va (.bool (!decide ((a2.length:Int)=(a1.length:Int)))) (nl ?_)))))))
  refine aE E z (fun c3 E=>?_) (fun c3 E=>?_)
  ·refine aA ?_
   exact⟨k,_,_,aI _,E,aD ⟨z,z,z,z,z,z,z,z,acu⟩,H⟩
  refine aH (vm v1_ (vr (aY bI (H.rd h1) z) (vr (dy z z) (va (.bool (decide (255<(a1.length:Int)))) (aK ?_)))))
  exact⟨k,_,_,aI _,E,aD ⟨z,z,z,z,z,z,z,z,acu⟩,H⟩
 rintro t w ⟨k1,x1,t1,hk1,E,rfl,H⟩
 unfold cG.j0 at E
 refine aE E z (fun c4 E=>?_) (fun c4 E=>?_)
 ·refine rg (va sn (va (.bool false) (nl (aj ?_))))
  have H:=H.bB (.int .u8) 5
  cases E
  exact(bG (aL ⟨.inl z,_,tk0 z ⟨aB z (ad (ad ai)),_,z,H.bN 0 1 z z z⟩⟩))
 refine rg (vm v1_ (ye (cm 4 [v1_] Hw Tryz.func276 z z z z (rg ?_))))
 obtain⟨p1,n1,c5,rfl⟩:=eO h1
 refine ye (bc (cs:=#[(.slice p1 n1 c5)]) H z (fun b1 w H=>va (.nilFunc) (nl (rg (vr (dt [pt b1] z) (va (.func (.func 314) #[] #[pt b1]) (nl (aj (⟨.inl z,.func (.func 314) #[] #[pt b1],tk0 z ⟨ba z (ad ai) z,ye (cm 9 [.func (.func 314) #[] #[pt b1]] Hv Tryz.func275 z z z z (rg (va sn (nl (rg (vm (.func (.func 314) #[] #[pt b1]) (ye (cm 5 [.func (.func 314) #[] #[pt b1]] HD Tryz.func312 z z z z (rg (va sn (nl (rg (vm (.func (.func 314) #[] #[pt b1]) (ye (cm 13 [sn,.func (.func 314) #[] #[pt b1]] HR Tryz.func345 z z z z ?_)))))))))))))))⟩⟩)))))))))
 have H:=H.mk0
 refine rg (ye (bc (cs:=#[sn]) H z (fun b2 w H=>va sn (nl (ae (rg (vm (.func (.func 314) #[] #[pt b1]) (nl (aG (je 16 [pt b1] z Tryz.func314 z z z z z H 2 z z (fun v1 b3 o1 w hO1 H=>rg (vr (av bQ z (ak (H.Gt 1 z) z)) (vr (aY bI (H.rd h1) z) (vm (ii 0) (nl (aG ?_))))))))))))))))
 have H:=H.bB (.int .u8) 5
 refine bx (fun kk t w=>∃(l1:List Int)(x2:Int)(v2:Value)(t2:Fr),kk≤k1∧cG.l0 kk a1 a2 a3 l1 x2=some r∧t=aU t2 [(0,.func (.yield b3) #[] #[]),(5,(.slice p1 n1 c5)),(6,ii (a1.length:Int)),(7,ii x2),(1000000,undef)]∧St (Rs.ah F_).fp w0 w [.ah F_,.blk b1 #[(.slice p1 n1 c5)] 22,.bO v1,.blk b2 #[v2] 22,.obj b3 (.loop o1),.own (.int .u8) 5 v2 l1]) k1 ?_ ?_
 ·exact⟨_,_,_,_,aI _,E,aD ⟨z,z,z,z,z,acu⟩,H⟩
 rintro kk t w ⟨l1,x2,v2,t2,hk2,E,rfl,H⟩
 obtain⟨k2,rfl⟩|rfl:=ks kk
 rotate_left
 ·cases E
 rw[cG.l0]at E
 refine rg (vr (aZ z z) (nl (ae ?_)))
 refine aE E z (fun c6 E=>?_) (fun c6 E=>?_)
 ·refine aA (ab (ae (aG (rg ?_))))
  obtain⟨⟨g1,g2⟩,E⟩:=ar E
  refine vr (bo aN (H.rd h1) z z g1 g2) (vr (bq bC (H.rd h1) g1 g2 z) (va (iu (at_ 0 a1 x2)) (nl (rg (vm (.func (.yield b3) #[] #[]) (vm (iu (at_ 0 a1 x2)) (ye (jf [iu (at_ 0 a1 x2)] z z H 4 z hO1 z z (aH (va (iu (at_ 0 a1 x2)) (aK (yB H 4 z hO1 (fun w H=>aG (aH (vr (av bQ z (ak (H.Gt 3 z) z)) (vm (iu (at_ 0 a1 x2)) (ye (cL (e:=(.int .u8)) (l:=[at_ 0 a1 x2]) aN H z f_ ⟨z,z,acu⟩ f_ (fun v3 w H=>?_)))))))))))))))))))
  obtain⟨g3,E⟩:=ar E
  refine ye (dZ aN H 5 z (ao (H.Gt 6 z)) z z a_ u_ (fun v4 w H=>?_))
  obtain⟨p2,n2,c7,rfl⟩:=bX (H.Gt 5 z)
  refine s_ (cQ pA H 3 z z z z z (fun w H=>aK (aR (yN H 4 z hO1 (fun w H=>vr (bJ (v':=.bool false) (cp z) z) (nl (bS z (aA (aR (ab (aH (vr (aO z z) (vm (ii (I W (x2+1))) (aK ?_))))))))))))))
  exact⟨k2,bL _,_,_,_,_,bK hk2,E,aD ⟨z,z,z,z,z,acu⟩,H.ag [0,1,2,3,4,5] z z⟩
 refine bt (aM (aM (bu (⟨.inr z,.tuple #[],tk0 z ⟨ba z ai z,ji H 4 z hO1 (fun w H=>aR (ab (rg (vr (av bQ z (ak (H.Gt 3 z) z)) (va v2 (nl (aj (⟨.inl z,v2,gT H 2 z z (fun w H=>⟨ba z (ad ai) z,va v2 (nl (aj (⟨.inl z,v2,tk0 z ⟨ba z (ad ai) z,va v2 (nl (rg (vm v2 (ye (cm 11 [v2] HE Tryz.func313 z z z z (rg (vm v2 (vr (aY bI (ao (H.Gt 5 z)) z) (va (ii (l1.length:Int)) (nl (aH (vm v2 (vm (ii (l1.length:Int)) (vm (ii (l1.length:Int)) (vr (cD z Tryz.underlying3 Tryz.underlying167) ?_)))))))))))))))⟩⟩)))⟩)⟩))))))))⟩⟩))))
 refine ye (E9 Hk H E (fun _ h=>dx.calls h) (fun x3 E w H=>?_))
 refine ye (YL vq H 5 E z (fun _ h=>bW.calls (H.Gt 5 z) h) (fun x4 E w H=>aK (⟨.inr z,.tuple #[],tk0 z ⟨ba z ai z,nl (rg (vm v2 (va v2 (nl (aj (⟨.inl z,v2,tk0 z ⟨ba z (ad ai) z,?_⟩⟩))))))⟩⟩)))
 refine ye (fZ (fun v w=>∃(k3:Nat),k3≤k2∧cG.j1 k3 a1 a2 a3 x4=some r∧v=v2∧St (Rs.ah F_).fp w0 w [.ah F_,.blk b1 #[(.slice p1 n1 c5)] 22,.bO undef,.blk b2 #[v2] 22,.obj b3 (.loop (pS o1)),.own (.int .u8) 5 v2 x4.2]) ?_ ?_)
 ·refine(cm 61 [v2] Hu Tryz.func274 z z z z (rg (va sn (nl (ae (rg (vm v2 (vr (aY bI (ao (H.Gt 5 z)) z) (vr (aZ z z) (nl ?_))))))))))
  refine aE E z (fun c8 E=>?_) (fun c8 E=>?_)
  ·refine rg (vm v2 (va v2 (nl (aj ?_))))
   exact(aL ⟨.inl z,v2,tk0 z ⟨ba z (ad ai) z,k2,aI _,E,z,H⟩⟩)
  refine aA (ab (ae (rg (va (ii 1) (nl (aG ?_))))))
  refine bx (fun kk t w=>∃(x5:Int)(t3:Fr),kk≤k2∧cG.l1 kk a1 a2 a3 x4 x5=some r∧t=aU t3 [(0,v2),(2,sn),(3,ii x5),(1000000,undef)]∧St (Rs.ah F_).fp w0 w [.ah F_,.blk b1 #[(.slice p1 n1 c5)] 22,.bO undef,.blk b2 #[v2] 22,.obj b3 (.loop (pS o1)),.own (.int .u8) 5 v2 x4.2]) k2 ?_ ?_
  ·exact⟨_,_,aI _,E,aD ⟨z,z,z,z,acu⟩,H⟩
  rintro kk t w ⟨x5,t3,hk3,E,rfl,H⟩
  obtain⟨k4,rfl⟩|rfl:=ks kk
  rotate_left
  ·cases E
  rw[cG.l1]at E
  refine ae (rg (vm (ii x5) (vm v2 (vr (aY bI (ao (H.Gt 5 z)) z) (vr (aZ z z) (nl ?_))))))
  refine aE E z (fun c9 E=>?_) (fun c9 E=>?_)
  ·refine aA (ab (ae (aG (ae (cd (ds:=[]) bZ H z z ?_)))))
   have H:=H.drew
   refine wm 0 z H v2 (wm 1 z H (ii x5) ?_)
   obtain⟨⟨g4,g5⟩,E⟩:=ar E
   refine wz 2 z H (fun w H=>bo aN (ao (H.Gt 5 z)) z z g4 g5) (wz 3 z H (fun w H=>bq bC (ao (H.Gt 5 z)) g4 g5 z) (wm 4 z H v2 (wm 5 z H (ii x5) (wg 6 z H (bV z z) ?_))))
   obtain⟨⟨g6,g7⟩,E⟩:=ar E
   refine wz 7 z H (fun w H=>bo aN (ao (H.Gt 5 z)) z z g6 g7) (wz 8 z H (fun w H=>bq bC (ao (H.Gt 5 z)) g6 g7 z) (wg 9 z H (cg z z) (wd (ab ?_))))
   refine aE E z (fun c10 E=>?_) (fun c10 E=>?_)
   ·cases E
   refine aA (aR (ab (aH (vm (ii x5) (vr (aO z z) (va (ii (I W (x5+1))) (aK ?_)))))))
   exact⟨k4,bL _,_,_,bK hk3,E,aD ⟨z,z,z,z,acu⟩,H⟩
  refine bt (aM (aM (bu (ab (rg (vm v2 (va v2 (nl (aj ?_)))))))))
  exact⟨.inl z,v2,tk0 z ⟨ba z (ad ai) z,k4,a_,E,z,H⟩⟩
 rintro _ w ⟨k3,hk4,E,hv_,H⟩
 have hv_:=hv_.symm
 subst hv_
 unfold cG.j1 at E
 refine vr (aY bI (ao (H.Gt 5 z)) z) (vm (.slice p1 n1 c5) (vr (aY bI (H.rd h1) z) (vr (aZ z z) (va (.bool (decide ((x4.2.length:Int)<(a1.length:Int)))) (nl ?_)))))
 refine aE E z (fun c11 E=>?_) (fun c11 E=>?_)
 ·refine rg (va sn (va (.bool false) (nl (aj ?_))))
  have H:=H.bB (.int .u8) 5
  cases E
  exact(bG (aL ⟨.inl z,_,tk0 z ⟨aB z (ad (ad ai)),_,z,H.bN 0 6 z z z⟩⟩))
 refine aA (aR (ab (rg (vm (.slice p1 n1 c5) (vr (aY bI (H.rd h1) z) (vm (ii a3) (vr (bV z z) (vr (ie z z f_) (va (ii (I W (Int.tdiv (I W ((a1.length:Int)-a3)) 2))) (nl (rg (vm (pt F_.p) (vm (.slice p1 n1 c5) (vm v2_ (vm (ii a3) (vm (ii (I W (Int.tdiv (I W ((a1.length:Int)-a3)) 2))) ?_))))))))))))))))
 refine ye (YN Hx H 0 E z (fun _ h=>fl.calls (H.Gt 0 z) (H.cj 0 z (H.rd h1)) (H.cj 0 z (H.rd h2)) h) (fun x6 E v5 w H=>ye (cr zJ H (fun b4 w H=>?_))))
 obtain⟨p3,n3,c12,rfl⟩:=bX (H.Gt 6 z)
 refine s_ (cy sS H 7 z z z z z z (fun w H=>nl (ae (rg (vr (az Ic z) (vr (av Ig z (ak (H.Gt 7 z) z)) (vr (cp z) (vm (.bool (!x6.2)) ?_))))))))
 rcases bR (!x6.2)with c13|c13
 ·have E:=iT c13 E
  refine ow c13 z (ow c13 z (ow c13 z (ow c13 z (ow c13 z (vr (pT (.bool true) z z c13) (vm (.bool true) (ow z z (ow z z (ow z z (ow z z (ow z z (ow z z (ow z z (ow z z (vr (pT (.bool true) z z z) (nl (cl z (rg (va sn (va (.bool false) (nl (aj ?_))))))))))))))))))))))
  have H:=H.bB (.int .u8) 5
  cases E
  exact(aL ⟨.inl z,_,tk0 z ⟨aB z (ad (ad ai)),_,z,H.bN 0 8 z z z⟩⟩)
 have E:=iF c13 E
 refine oo c13 z (az vw z) (oo c13 z (av bQ z (ak (H.Gt 7 z) z)) ?_)
 refine dP z c13 z (E9 qW H E (fun _ h=>eN.calls (H.own 6 z (ao (H.Gt 6 z))) h) (fun x7 E w H=>oo c13 z (mv (ii a3) z) (oo c13 z (dq z z) (vr (pF (.bool (decide (a3≤x7))) z z c13) (vm (.bool (decide (a3≤x7))) ?_)))))
 rcases bR (decide (a3≤x7))with c14|c14
 ·have E:=iT c14 E
  refine ow c14 z (ow c14 z (ow c14 z (ow c14 z (ow c14 z (ow c14 z (ow c14 z (ow c14 z (vr (pT (.bool true) z z c14) (nl (cl z (rg (va sn (va (.bool false) (nl (aj ?_)))))))))))))))
  have H:=H.bB (.int .u8) 5
  cases E
  exact(aL ⟨.inl z,_,tk0 z ⟨aB z (ad (ad ai)),_,z,H.bN 0 8 z z z⟩⟩)
 have E:=iF c14 E
 refine oo c14 z (mv (pt F_.p) z) (oo c14 z (az vw z) (oo c14 z (av bQ z (ak (H.Gt 7 z) z)) (oo c14 z (mv (.slice p1 n1 c5) z) (oo c14 z (mv v2_ z) ?_))))
 refine dP z c14 z (YL Hy H 0 E z (fun _ h=>gV.calls (H.Gt 0 z) (H.cb 6 0 z z z (ao (H.Gt 6 z))) (H.cj 0 z (H.rd h1)) (H.cj 0 z (H.rd h2)) h) (fun x8 E w H=>?_))
 have H:St _ _ _ [_,_,_,_,_,_,_,_]:=H
 refine oo c14 z (mv (ii (I W (Int.tdiv (I W ((a1.length:Int)-a3)) 2))) z) (oo c14 z (dy z z) (vr (pF (.bool (decide (I W (Int.tdiv (I W ((a1.length:Int)-a3)) 2)<x8))) z z c14) (nl ?_)))
 refine aE E z (fun c15 E=>?_) (fun c15 E=>?_)
 ·refine rg (va sn (va (.bool false) (nl (aj ?_))))
  have H:=H.bB (.int .u8) 5
  cases E
  exact(aL ⟨.inl z,_,tk0 z ⟨aB z (ad (ad ai)),_,z,H.bN 0 8 z z z⟩⟩)
 refine aA (ab (rg (vr (az vw z) (vr (av bQ z (ak (H.Gt 7 z) z)) (va (.slice p3 n3 c12) (va (.bool true) (nl (aj ?_))))))))
 cases E
 exact⟨.inl z,_,tk0 z ⟨aB z (ad (ad ai)),_,z,H.bN 0 6 z z z⟩⟩
def oL.f(k:Nat)(a1:Int×Int×Int)(a2:List Int):Option (List Int):=(dn.f k (a1.1,a1.2.1,a1.2.2)).bind fun x2=>(eR.f k a2 x2.1).bind fun x6=>(jJ.f x2.2 x6).bind fun x9=>some x9
theorem oL.calls{a1:Int×Int×Int}{a2:List Int}{r:List Int}(hf:(Rs.ah F_).inv w0)(h2:Zg F_ w0 v2_ a2)(E:oL.f k a1 a2=some r):
 Calls aa 226 #[pt F_.p,.agg #[ii a1.1,ii a1.2.1,ii a1.2.2],v2_] w0 fun e w'=>∃(u0:Value),e= .returned (u0)∧St (Rs.ah F_).fp w0 w' [.ah F_,Y9 u0 r]:=by
 have H:=St.start hf
 unfold oL.f at E
 refine Zb func226 ?_
 refine rg (ye (bc (cs:=#[ii a1.1,ii a1.2.1,ii a1.2.2]) H z (fun b1 w H=>A_ ?_)))
 refine vr (bp (l:=[ii a1.1,ii a1.2.1,ii a1.2.2]) cv (H.Gt 1 z) z z z) ?_
 obtain⟨x2,E3,E⟩:=ay E
 refine ye (au zp z ((dn.calls (H.Gt 0 z) E3).mono ?_))
 rintro _ w ⟨v4,v5,rfl,K⟩
 have H:=H.aV 0 z K
 refine⟨_,z,A_ ?_⟩
 refine ye (YN qU H 0 E z (fun _=>eR.calls (H.Gt 0 z) (H.cj 0 z (H.rd h2)) (H.cb 2 0 z z z (ao (H.Gt 2 z)))) (fun x6 E v8 w H=>?_))
 refine ye (YN vp H 0 E z (fun _=>jJ.calls (H.Gt 0 z) (H.cb 3 0 z z z (ao (H.Gt 3 z))) (H.cb 4 0 z z z (ao (H.Gt 4 z)))) (fun x9 E v1 w H=>A_ ?_))
 cases E
 exact⟨.inl z,_,tk0 z ⟨aB z (ad ai),_,z,H.bN 0 5 z z z⟩⟩
def eY.j0(k:Nat)(a0:(Int×Int×Int)×List Int×List Int)(l1 l2:List Int):Option (List Int×Bool):=(cG.f k l1 l2 a0.1.2.1).bind fun x1=>bif !x1.2 then(some (([]:List Int),false))else((oL.f k (a0.1.1,a0.1.2.1,a0.1.2.2) x1.1).bind fun x2=>(lr.f k (a0.1.1,a0.1.2.1,a0.1.2.2) a0.2.1 a0.2.2 x2).bind fun x3=>bif !x3 then(some (([]:List Int),false))else(some (x2,true)))
def eY.l0:Nat→((Int×Int×Int)×List Int×List Int)→(List Int×List Int)→List (Int)→List (Int)→Int→Option (List Int×Bool)
 |0,_,_,_,_,_=>none
 |k+1,a0,x2,l1,l2,x1=>bif decide (x1<(x2.1.length:Int))then(an (decide ((0:Int)≤x1∧x1<(x2.1.length:Int))) ((jb.f k a0.2.2 x1).bind fun x3=>bif x3 then(eY.l0 k a0 x2 l1 l2 (I W (x1+1)))else(an (decide ((0:Int)≤x1∧x1<(a0.2.1.length:Int))) (an (decide ((0:Int)≤x1∧x1<(x2.2.length:Int))) ((nJ.f (at_ 0 a0.2.1 x1) (at_ 0 x2.2 x1)).bind fun x4=>an (decide ((l1.length+([at_ 0 x2.1 x1]).length)*1≤140737488355328)) (an (decide ((l2.length+([x4.1]).length)*1≤140737488355328)) (eY.l0 k a0 x2 (l1++([at_ 0 x2.1 x1])) (l2++([x4.1])) (I W (x1+1)))))))))else(eY.j0 k a0 l1 l2)
def eY.f(k:Nat)(a0:(Int×Int×Int)×List Int×List Int):Option (List Int×Bool):=(dn.f k (a0.1.1,a0.1.2.1,a0.1.2.2)).bind fun x2=>eY.l0 k a0 x2 ([]:List Int) ([]:List Int) 0
theorem eY.calls{a0:(Int×Int×Int)×List Int×List Int}{r:List Int×Bool}(hf:(Rs.ah F_).inv w0)(h0_4:Zg F_ w0 v0_4_ a0.2.1)(h0_5:Rd (.of (.int .i64)) w0 (Ol (Rs.ah F_).fp w0) v0_5_ a0.2.2)(E:eY.f k a0=some r):
 Calls aa 171 #[.agg #[pt F_.p,ii a0.1.1,ii a0.1.2.1,ii a0.1.2.2,v0_4_,v0_5_]] w0 fun e w'=>∃(u0:Value),e= .returned (.tuple #[u0,.bool r.2])∧St (Rs.ah F_).fp w0 w' [.ah F_,Y9 u0 r.1]:=by
 have H:=St.start hf
 unfold eY.f at E
 refine Zb func171 ?_
 refine rg (ye (bc (cs:=#[pt F_.p,ii a0.1.1,ii a0.1.2.1,ii a0.1.2.2,v0_4_,v0_5_]) H z (fun b1 w H=>A_ ?_)))
 refine vr (bp (l:=[ii a0.1.1,ii a0.1.2.1,ii a0.1.2.2]) cv (H.Gt 1 z) z z z) ?_
 obtain⟨x2,E3,E⟩:=ay E
 refine ye (au zp z ((dn.calls (H.Gt 0 z) E3).mono ?_))
 rintro _ w ⟨v4,v5,rfl,K⟩
 have H:=H.aV 0 z K
 refine⟨_,z,J_ ?_⟩
 refine cA (fun t w=>∃(k1:Nat)(l1 l2:List Int)(v1 v2:Value)(t1:Fr),k1≤k∧eY.j0 k1 a0 l1 l2=some r∧t=aU t1 [(1,pt b1),(2,sn),(3,.bool false),(6,v1),(7,v2),Zc]∧St (Rs.ah F_).fp w0 w [.ah F_,.blk b1 #[pt F_.p,ii a0.1.1,ii a0.1.2.1,ii a0.1.2.2,v0_4_,v0_5_] 265,Y9 v4 x2.1,Y9 v5 x2.2,Y9 v1 l1,Y9 v2 l2]) ?_ ?_
 ·refine A_ ?_
  have H:=H.bB (.int .u8) 5
  have H:=H.bB (.int .u8) 5
  refine bx (fun kk t w=>∃(l3 l4:List Int)(x1:Int)(v3 v6:Value)(t2:Fr),kk≤k∧eY.l0 kk a0 x2 l3 l4 x1=some r∧t=aU t2 [(1,pt b1),(2,sn),(3,.bool false),(5,v5),(6,v3),(7,v6),(24,v4),(25,ii (x2.1.length:Int)),(26,ii x1),Zc]∧St (Rs.ah F_).fp w0 w [.ah F_,.blk b1 #[pt F_.p,ii a0.1.1,ii a0.1.2.1,ii a0.1.2.2,v0_4_,v0_5_] 265,Y9 v4 x2.1,Y9 v5 x2.2,Y9 v3 l3,Y9 v6 l4]) k Ze ?_
  rintro kk t w ⟨l3,l4,x1,v3,v6,t2,hk1,E,rfl,H⟩
  obtain⟨k2,rfl⟩:=Zd kk
  rw[eY.l0]at E
  refine A_ ?_
  refine aE E z ?_ ?_<;>intro c1 E<;>refine A_ ?_
  ·obtain⟨⟨g1,g2⟩,E⟩:=ar E
   refine A_ ?_
   refine ye (E9 vk H E (fun _=>jb.calls (H.arg (H.rd h0_5))) (fun x3 E w H=>nl ?_))
   refine aE E z ?_ ?_<;>intro c2 E
   ·refine A_ ?_
    exact⟨k2,bL _,_,_,_,_,_,_,bK hk1,E,Za,H⟩
   refine aA (ab (ae (cd (ds:=[]) bZ H z z ?_)))
   have H:=H.drew
   refine B_ [0,1,2,3,4,5,6] H ?_
   obtain⟨⟨g3,g4⟩,E⟩:=ar E
   refine B_ [7,8,9,10] H ?_
   obtain⟨⟨g5,g6⟩,E⟩:=ar E
   refine B_ [11,12] H ?_
   refine wo 13 z (YL Hd H 0 E z (fun _=>nJ.calls (H.Gt 0 z)) (fun x4 E w H=>⟨fun _=>H.Y8 [0,1,2,3,4,5],B_ [14,15,16,17,18] (H.Y8 [0,1,2,3,4,5]) ?_⟩))
   refine ye (cL (e:=(.int .u8)) (l:=[at_ 0 x2.1 x1]) aN H z f_ ⟨z,z,acu⟩ f_ (fun v7 w H=>?_))
   obtain⟨g7,E⟩:=ar E
   refine ye (dZ aN H 4 z (ao (H.Gt 6 z)) z z a_ u_ (fun v8 w H=>A_ ?_))
   refine ye (cL (e:=(.int .u8)) (l:=[x4.1]) aN H z f_ ⟨z,z,acu⟩ f_ (fun v9 w H=>?_))
   have H:St _ _ _ [_,_,_,_,_,_,_,_]:=H
   obtain⟨g8,E⟩:=ar E
   refine ye (dZ aN H 5 z (ao (H.Gt 7 z)) z z a_ u_ (fun v10 w H=>A_ ?_))
   exact⟨k2,bL _,_,_,_,_,_,_,bK hk1,E,Za,H.Y8 [0,1,2,3,4,5]⟩
  exact⟨k2,_,_,_,_,_,a_,E,Za,H⟩
 rintro t w ⟨k1,l1,l2,v1,v2,t1,hk2,E,rfl,H⟩
 unfold eY.j0 at E
 refine A_ ?_
 refine ye (YN He H 0 E z (fun _=>cG.calls (H.Gt 0 z) (H.cb 4 0 z z z (ao (H.Gt 4 z))) (H.cb 5 0 z z z (ao (H.Gt 5 z)))) (fun x5 E v11 w H=>A_ ?_))
 refine aE E z ?_ ?_<;>intro c3 E
 ·refine A_ ?_
  have H:=H.bB (.int .u8) 5
  cases E
  exact(aL ⟨.inl z,_,tk0 z ⟨aB z (ad (ad ai)),_,z,H.bN 0 7 z z z⟩⟩)
 refine aA (ab (ae (cd (ds:=[]) bZ H z z ?_)))
 have H:=H.drew
 refine wg 0 z H (az kO z) (wz 1 z H (fun w H=>bp (l:=[pt F_.p,ii a0.1.1,ii a0.1.2.1,ii a0.1.2.2,v0_4_,v0_5_]) jC (H.Gt 1 z) z z z) (B_ [2,3,4,5,6] H ?_))
 refine wz 7 z H (fun w H=>bp (l:=[ii a0.1.1,ii a0.1.2.1,ii a0.1.2.2]) cv (H.Gt 1 z) z z z) (B_ [8] H ?_)
 refine wo 9 z (YN Hf H 0 E z (fun _=>oL.calls (H.Gt 0 z) (H.cb 6 0 z z z (ao (H.Gt 6 z)))) (fun x6 E v12 w H=>⟨fun _=>H.Y8 [0,1,2,3,4,5,6],wo 10 z (cm 18 [.agg #[pt F_.p,ii a0.1.1,ii a0.1.2.1,ii a0.1.2.2,v0_4_,v0_5_],v12] zq func225 z z z z (rg (ye (bc (cs:=#[pt F_.p,ii a0.1.1,ii a0.1.2.1,ii a0.1.2.2,v0_4_,v0_5_]) H z (fun b2 w H=>A_ ?_)))))⟩))
 refine vr (bp (l:=[ii a0.1.1,ii a0.1.2.1,ii a0.1.2.2]) cv (H.Gt 8 z) z z z) (A_ ?_)
 refine ye (YL zw H 0 E z (fun _=>lr.calls (H.Gt 0 z) (H.cj 0 z (H.rd h0_4)) (H.cj 0 z (H.rd h0_5)) (H.cb 7 0 z z z (ao (H.Gt 7 z)))) (fun x7 E w H=>A_ ?_))
 refine aE E z ?_ ?_<;>intro c4 E
 ·refine rg (va sn (va (.bool false) (nl (aj (aL ⟨.inl z,.tuple #[sn,.bool false],tk0 z ⟨ba z (ad (ad ai)) z,(⟨fun _=>H.Y8 [0,1,2,3,4,5,6],wg 11 z (H.Y8 [0,1,2,3,4,5,6]) (aX z z) (wg 12 z (H.Y8 [0,1,2,3,4,5,6]) (aX z z) (wg 13 z (H.Y8 [0,1,2,3,4,5,6]) (sg sn z) (wg 14 z (H.Y8 [0,1,2,3,4,5,6]) (sg (.bool false) z) (wd (ab (aj ?_))))))⟩)⟩⟩)))))
  have H:=H.bB (.int .u8) 5
  cases E
  exact⟨.inl z,_,tk0 z ⟨aB z (ad (ad ai)),_,z,H.bN 0 9 z z z⟩⟩
 refine A_ ?_
 refine⟨.inl z,.tuple #[v12,.bool true],tk0 z ⟨ba z (ad (ad ai)) z,(⟨fun _=>H.Y8 [0,1,2,3,4,5,6],wg 11 z (H.Y8 [0,1,2,3,4,5,6]) (aX z z) (wg 12 z (H.Y8 [0,1,2,3,4,5,6]) (aX z z) (wy 13 z (H.Y8 [0,1,2,3,4,5,6]) (sg v12 z) (wg 14 z (H.Y8 [0,1,2,3,4,5,6]) (sg (.bool true) z) (wd (ab (aj ?_))))))⟩)⟩⟩
 cases E
 exact⟨.inl z,_,tk0 z ⟨aB z (ad (ad ai)),_,z,H.bN 0 7 z z z⟩⟩
def jw.f(k:Nat)(a0:(Int×Int×Int)×List Int×List Int):Option (Bool):=(dA.f k (a0.1.1,a0.1.2.1,a0.1.2.2) a0.2.2).bind fun x2=>bif decide (x2=0)then(bif decide ((a0.2.1.length:Int)=a0.1.1)then((gf.f (a0.1.1,a0.1.2.1,a0.1.2.2)).bind fun x6=>some (decide ((a0.2.2.length:Int)≤x6)))else(some false))else(some false)
theorem jw.calls{a0:(Int×Int×Int)×List Int×List Int}{r:Bool}(hf:(Rs.ah F_).inv w0)(h0_4:Zg F_ w0 v0_4_ a0.2.1)(h0_5:Rd (.of (.int .i64)) w0 (Ol (Rs.ah F_).fp w0) v0_5_ a0.2.2)(E:jw.f k a0=some r):
 Calls aa 172 #[.agg #[pt F_.p,ii a0.1.1,ii a0.1.2.1,ii a0.1.2.2,v0_4_,v0_5_]] w0 fun e w'=>e= .returned (.bool r)∧St (Rs.ah F_).fp w0 w' [.ah F_]:=by
 have H:=St.start hf
 unfold jw.f at E
 refine Zb func172 ?_
 refine rg (ye (bc (cs:=#[pt F_.p,ii a0.1.1,ii a0.1.2.1,ii a0.1.2.2,v0_4_,v0_5_]) H z (fun b1 w H=>A_ ?_)))
 refine cd (ds:=[]) bZ H z z ?_
 have H:=H.drew
 refine B_ [0,1,2,3,4] H ?_
 refine wn 5 z z z z H (fun w H=>bp (l:=[ii a0.1.1,ii a0.1.2.1,ii a0.1.2.2]) cv (H.Gt 1 z) z z z) (B_ [6,7] H ?_)
 refine wp 8 z z z z (E9 zi H E (fun _=>dA.calls (H.arg (H.rd h0_5))) (fun x2 E w H=>⟨fun _=>H.Y8 [0,1],B_ [9,10,11] (H.Y8 [0,1]) ?_⟩))
 rcases bR (decide (x2=0))with c4|c4
 ·have E:=iT c4 E
  refine B_ [12,13,14,15,16,17,18,19,20] (H.Y8 [0,1]) ?_
  rcases bR (decide ((a0.2.1.length:Int)=a0.1.1))with c5|c5
  ·have E:=iT c5 E
   refine B_ [21,22,23,24] (H.Y8 [0,1]) ?_
   refine wn 25 z z z c5 (H.Y8 [0,1]) (fun w H=>bp (l:=[ii a0.1.1,ii a0.1.2.1,ii a0.1.2.2]) cv (H.Gt 1 z) z z z) ?_
   refine wp 26 z z z c5 (E9 pf H E (fun _=>gf.calls) (fun x6 E w H=>⟨fun _=>H.Y8 [0,1],B_ [27,28,29] (H.Y8 [0,1]) ?_⟩))
   cases E
   exact⟨.inl z,_,tk0 z ⟨aB z (ad ai),z,H.bA 0 z⟩⟩
  have E:=iF c5 E
  refine B_ [21,22,23,24,25,26,27,28,29] (H.Y8 [0,1]) ?_
  cases E
  exact⟨.inl z,_,tk0 z ⟨aB z (ad ai),z,H.bA 0 z⟩⟩
 have E:=iF c4 E
 refine B_ [12,13,14,15,16,17,18,19,20,21,22,23,24,25,26,27,28,29] (H.Y8 [0,1]) ?_
 cases E
 exact⟨.inl z,_,tk0 z ⟨aB z (ad ai),z,H.bA 0 z⟩⟩
end Go.Proofs.YtmhkpafkadijgaaGreatDoor.Gw
