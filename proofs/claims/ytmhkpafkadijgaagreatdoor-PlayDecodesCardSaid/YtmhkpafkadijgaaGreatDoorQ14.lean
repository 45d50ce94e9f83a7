/- A part of the proof of Rows.PlayDecodesCardSaid; the conditions are that card's own. -/
import Derived.Test.YtmhkpafkadijgaaGreatDoorQ13
set_option linter.all false
set_option maxRecDepth 100000
set_option maxHeartbeats 4000000
namespace Go.Proofs.YtmhkpafkadijgaaGreatDoor.Gw
open Go.IntKind renaming wrap→I,i64→W
open Go Go.RowKit
variable[de]
open Go.IntKind (i8 i16 i32 i64 u8 u16 u32 u64)
open Tryz hiding prog
open Tryz renaming prog → aa
variable{w0:World}{k:Nat}{F_:FD}{v0_ v1_ v2_ v3_ v4_:Value}
def jk.l0:Nat→List Int→Int→List Int→Int→Int→Int→Option (Int)
 |0,_,_,_,_,_,_=>none
 |k+1,a1,a2,a3,a4,x9,x1=>bif decide (x1<a2)then((jV.f a1 (I W (x1+1))).bind fun x2=>(jV.f a3 (I W ((I W (a4-x1))-1))).bind fun x3=>(gp.f x2 x3).bind fun x4=>jk.l0 k a1 a2 a3 a4 (bits .xor .u8 x9 x4) (I W (x1+1)))else(some x9)
def jk.f(k:Nat)(a1:List Int)(a2:Int)(a3:List Int)(a4:Int):Option (Int):=jk.l0 k a1 a2 a3 a4 0 0
theorem jk.calls{a1:List Int}{a2:Int}{a3:List Int}{a4:Int}{r:Int}(hf:(Rs.ah F_).inv w0)(h1:Zg F_ w0 v1_ a1)(h3:Zg F_ w0 v3_ a3)(E:jk.f k a1 a2 a3 a4=some r):
 Calls aa 262 #[pt F_.p,v1_,ii a2,v3_,ii a4] w0 fun e w'=>e= .returned (iu r)∧St (Rs.ah F_).fp w0 w' [.ah F_]:=by
 have H:=St.start hf
 unfold jk.f at E
 refine Zb func262 ?_
 refine A_ ?_
 refine bx (fun kk t w=>∃(x9 x1:Int)(t1:Fr),kk≤k∧jk.l0 kk a1 a2 a3 a4 x9 x1=some r∧t=aU t1 [(0,pt F_.p),(1,v1_),(3,v3_),(4,ii a4),(10,iu 0),(11,iu x9),(13,ii a2),(14,ii x1),Zc]∧St (Rs.ah F_).fp w0 w [.ah F_]) k Ze ?_
 rintro kk t w ⟨x9,x1,t1,hk1,E,rfl,H⟩
 obtain⟨k19,rfl⟩:=Zd kk
 rw[jk.l0]at E
 refine A_ ?_
 refine aE E z ?_ ?_<;>intro c1 E<;>refine A_ ?_
 ·refine ye (E9 vo H E (fun _=>jV.calls (H.arg (H.rd h1))) (fun x2 E w H=>A_ ?_))
  refine ye (E9 vo H E (fun _=>jV.calls (H.arg (H.rd h3))) (fun x3 E w H=>?_))
  refine ye (YL pg H 0 E z (fun _=>gp.calls (H.Gt 0 z)) (fun x4 E w H=>A_ ?_))
  exact⟨k19,bL _,_,_,_,bK hk1,E,Za,H⟩
 cases E
 exact⟨.inl z,_,tk0 z ⟨aB z (ad ai),z,H.bA 0 z⟩⟩
def nJ.f(a1 a2:Int):Option (Int×Bool):=(fN.f a2).bind fun x1=>bif !x1.2 then(some (0,false))else((gp.f a1 x1.1).bind fun x5=>some (x5,true))
theorem nJ.calls{a1 a2:Int}{r:Int×Bool}(hf:(Rs.ah F_).inv w0)(E:nJ.f a1 a2=some r):
 Calls aa 223 #[pt F_.p,iu a1,iu a2] w0 fun e w'=>e= .returned (.tuple #[iu r.1,.bool r.2])∧St (Rs.ah F_).fp w0 w' [.ah F_]:=by
 have H:=St.start hf
 unfold nJ.f at E
 refine Zb func223 ?_
 refine A_ ?_
 refine ye (YL qX H 0 E z (fun _=>fN.calls (H.Gt 0 z)) (fun x1 E w H=>A_ ?_))
 refine aE E z ?_ ?_<;>intro c4 E<;>refine A_ ?_
 ·cases E
  exact(aL ⟨.inl z,_,tk0 z ⟨aB z (ad (ad ai)),z,H.bA 0 z⟩⟩)
 refine ye (YL pg H 0 E z (fun _=>gp.calls (H.Gt 0 z)) (fun x5 E w H=>A_ ?_))
 cases E
 exact⟨.inl z,_,tk0 z ⟨aB z (ad (ad ai)),z,H.bA 0 z⟩⟩
def ky.f(k:Nat)(a1:Int)(a2:List Int):Option (List Int):=(gn.f k a1 a2).bind fun x1=>(cX.f k x1).bind fun x4=>some x4
theorem ky.calls{a1:Int}{a2:List Int}{r:List Int}(hf:(Rs.ah F_).inv w0)(h2:Zg F_ w0 v2_ a2)(E:ky.f k a1 a2=some r):
 Calls aa 271 #[pt F_.p,iu a1,v2_] w0 fun e w'=>∃(u0:Value),e= .returned (u0)∧St (Rs.ah F_).fp w0 w' [.ah F_,Y9 u0 r]:=by
 have H:=St.start hf
 unfold ky.f at E
 refine Zb func271 ?_
 refine A_ ?_
 refine ye (YN ph H 0 E z (fun _=>gn.calls (H.Gt 0 z) (H.cj 0 z (H.rd h2))) (fun x1 E v3 w H=>?_))
 refine ye (YM eS H E (fun _=>cX.calls (H.own 1 z (ao (H.Gt 1 z)))) (fun x4 E v6 w H=>A_ ?_))
 cases E
 exact⟨.inl z,_,tk0 z ⟨aB z (ad ai),_,z,H.bN 0 2 z z z⟩⟩
def hY.j0(l1r:List (List Int)→Int→List (Int)→Int→Option (List Int))(k:Nat)(a0:List (List Int))(x1:Int)(l1:List Int):Option (List Int):=l1r a0 x1 l1 0
mutual
def hY.l0:Nat→List (List Int)→List (Int)→Int→Option (List Int)
 |0,_,_,_=>none
 |k+1,a0,l1,x1=>bif decide (x1<(a0.length:Int))then(an (decide ((0:Int)≤x1∧x1<(a0.length:Int))) (bif decide ((l1.length:Int)<((at_ [] a0 x1).length:Int))then(an (decide ((0:Int)<I W (((at_ [] a0 x1).length:Int)-(l1.length:Int))∧(l1.length:Int)+I W (((at_ [] a0 x1).length:Int)-(l1.length:Int))≤140737488355328)) (hY.j0 (hY.l1 k) k a0 x1 (l1++List.replicate (I W (((at_ [] a0 x1).length:Int)-(l1.length:Int))).toNat (0:Int))))else(hY.j0 (hY.l1 k) k a0 x1 l1)))else((cX.f k l1).bind fun x2=>some x2)
def hY.l1:Nat→List (List Int)→Int→List (Int)→Int→Option (List Int)
 |0,_,_,_,_=>none
 |k+1,a0,x1,l2,x3=>bif decide (x3<((at_ [] a0 x1).length:Int))then(an (decide ((0:Int)≤x3∧x3<((at_ [] a0 x1).length:Int))) (an (decide ((0:Int)≤x3∧x3<(l2.length:Int))) (an (decide ((0:Int)≤x3∧x3<(l2.length:Int))) (hY.l1 k a0 x1 (l2.set x3.toNat (bits .xor .u8 (at_ 0 l2 x3) (at_ 0 (at_ [] a0 x1) x3))) (I W (x3+1))))))else(hY.l0 k a0 l2 (I W (x1+1)))
end
def hY.f(k:Nat)(a0:List (List Int)):Option (List Int):=hY.l0 k a0 ([]:List Int) 0
theorem hY.calls{a0:List (List Int)}{r:List Int}(h0:Rd (.sl (.of (.int .u8))) w0 (Ol no w0) v0_ a0)(E:hY.f k a0=some r):
 Calls aa 341 #[v0_] w0 fun e w'=>∃(u0:Value),e= .returned (u0)∧St no w0 w' [Y9 u0 r]:=by
 have H:=St.nil no w0
 unfold hY.f at E
 refine Zb func341 ?_
 refine A_ ?_
 have H:=H.bB (.int .u8) 5
 refine bx (fun kk t w=>∃(l1:List Int)(x1:Int)(v1:Value)(t1:Fr),kk≤k∧hY.l0 kk a0 l1 x1=some r∧t=aU t1 [(2,sn),(3,v1),(8,v0_),(9,ii (a0.length:Int)),(10,ii x1),Zc]∧St no w0 w [Y9 v1 l1]) k Ze ?_
 rintro kk t w ⟨l1,x1,v1,t1,hk1,E,rfl,H⟩
 obtain⟨k1,rfl⟩:=Zd kk
 rw[hY.l0]at E
 refine A_ ?_
 refine aE E z ?_ ?_<;>intro c1 E<;>refine A_ ?_
 ·obtain⟨⟨g1,g2⟩,E⟩:=ar E
  refine A_ ?_
  refine ye (uN bQ H h0 g1 g2 z (fun v2 h1=>J_ ?_))
  refine cA (fun t w=>∃(k2:Nat)(l2:List Int)(v3:Value)(t2:Fr),k2≤k1∧hY.j0 (hY.l1 k2) k2 a0 x1 l2=some r∧t=aU t2 [(2,sn),(3,v3),(5,v2),(8,v0_),(9,ii (a0.length:Int)),(10,ii x1),Zc]∧St no w0 w [Y9 v3 l2]) ?_ ?_
  ·refine A_ ?_
   refine aE E z ?_ ?_<;>intro c2 E
   ·refine A_ ?_
    obtain⟨⟨g3,g4⟩,E⟩:=ar E
    refine ye (YF aN underlying3 H 0 z z z g3 g4 (fun v4 w H=>A_ ?_))
    exact⟨k1,_,_,_,aI _,E,Za,H⟩
   refine aA ?_
   exact⟨k1,_,_,_,aI _,E,Za,H⟩
  rintro t w ⟨k2,l2,v3,t2,hk2,E,rfl,H⟩
  unfold hY.j0 at E
  refine A_ ?_
  refine bx (fun kk t w=>∃(l3:List Int)(x2:Int)(t3:Fr),kk≤k2∧hY.l1 kk a0 x1 l3 x2=some r∧t=aU t3 [(2,sn),(3,v3),(8,v0_),(9,ii (a0.length:Int)),(10,ii x1),(26,v2),(27,ii ((at_ [] a0 x1).length:Int)),(28,ii x2),Zc]∧St no w0 w [Y9 v3 l3]) k2 Ze ?_
  rintro kk t w ⟨l3,x2,t3,hk3,E,rfl,H⟩
  obtain⟨k3,rfl⟩:=Zd kk
  rw[hY.l1]at E
  refine A_ ?_
  refine aE E z ?_ ?_<;>intro c3 E<;>refine A_ ?_
  ·obtain⟨⟨g5,g6⟩,E⟩:=ar E
   refine A_ ?_
   obtain⟨⟨g7,g8⟩,E⟩:=ar E
   refine A_ ?_
   obtain⟨⟨g9,g10⟩,E⟩:=ar E
   refine A_ ?_
   refine s_ (dc dB H 0 z g9 g10 z z (fun w H=>A_ ?_))
   exact⟨k3,bL _,_,_,_,bK hk3,E,Za,H⟩
  exact⟨k3,a_,_,_,_,_,a_,E,Za,H⟩
 refine ye (YM eS H E (fun _=>cX.calls (H.own 0 z (ao (H.Gt 0 z)))) (fun x3 E v5 w H=>A_ ?_))
 cases E
 exact⟨.inl z,_,tk0 z ⟨aB z (ad ai),_,z,H.bA 1 z⟩⟩
def Sp.f(k:Nat)(a0 a1:List Int):Option (List Int):=(hY.f k ([a0,a1])).bind fun x8=>some x8
theorem Sp.calls{a0 a1:List Int}{r:List Int}(h0:Zf no w0 v0_ a0)(h1:Zf no w0 v1_ a1)(E:Sp.f k a0 a1=some r):
 Calls aa 306 #[v0_,v1_] w0 fun e w'=>∃(u0:Value),e= .returned (u0)∧St no w0 w' [Y9 u0 r]:=by
 have H:=St.nil no w0
 unfold Sp.f at E
 refine Zb func306 ?_
 refine A_ ?_
 obtain⟨p1,n2,c3,rfl⟩:=eO h0
 obtain⟨p4,n5,c6,rfl⟩:=eO h1
 refine ye (oO (l:=[(.slice p1 n2 c3),(.slice p4 n5 c6)]) ko H z f_ ⟨z,z,z,z,z,z,acu⟩ f_ (fun b7 w H=>?_))
 refine ye (YM Wp H E (fun _=>hY.calls (OW (ls:=[a0,a1]) H 0 z z z ⟨H.arg (H.rd h0),H.arg (H.rd h1),acu⟩)) (fun x8 E v1 w H=>A_ ?_))
 cases E
 exact⟨.inl z,_,tk0 z ⟨aB z (ad ai),_,z,H.bA 1 z⟩⟩
def Sx.f(a0:List Int)(a1:Int):Option (List Int):=an (decide ((0:Int)≤a1∧a1≤a1∧a1≤140737488355328)) (an (decide (((List.replicate a1.toNat (0:Int)).length+a0.length)*1≤140737488355328)) (some (List.replicate a1.toNat (0:Int)++a0)))
theorem Sx.calls{a0:List Int}{a1:Int}{r:List Int}(h0:Zf no w0 v0_ a0)(E:Sx.f a0 a1=some r):
 Calls aa 307 #[v0_,ii a1] w0 fun e w'=>∃(u0:Value),e= .returned (u0)∧St no w0 w' [Y9 u0 r]:=by
 have H:=St.nil no w0
 unfold Sx.f at E
 refine Zb func307 ?_
 refine A_ ?_
 obtain⟨⟨g2,g3,g4⟩,E⟩:=ar E
 refine ye (ee (e:=(.int .u8)) (z0:=0) aN z H z z g2 g3 a_ a_ (fun v1 w H=>A_ ?_))
 obtain⟨g6,E⟩:=ar E
 refine ye (dZ aN H 0 z (H.rd h0) z z a_ u_ (fun v5 w H=>A_ ?_))
 cases E
 exact⟨.inl z,_,tk0 z ⟨aB z (ad ai),_,z,H.bA 0 z⟩⟩
def iR.l0:Nat→List Int→List (Int)→List (Int)→Int→Int→Int→Int→Option (List Int×Int)
 |0,_,_,_,_,_,_,_=>none
 |k+1,a1,l1,l2,x1,x2,x3,x4=>bif decide (x4<(a1.length:Int))then(an (decide ((0:Int)≤x4∧x4<(a1.length:Int))) ((jk.f k l1 x1 a1 x4).bind fun x5=>bif decide (bits .xor .u8 (at_ 0 a1 x4) x5=0)then(iR.l0 k a1 l1 l2 x1 x2 (I W (x3+1)) (I W (x4+1)))else((nJ.f (bits .xor .u8 (at_ 0 a1 x4) x5) x2).bind fun x6=>(Sx.f l2 x3).bind fun x7=>(ky.f k x6.1 x7).bind fun x8=>(Sp.f k l1 x8).bind fun x9=>bif decide (x4<I W (2*x1))then(iR.l0 k a1 x9 l2 x1 x2 (I W (x3+1)) (I W (x4+1)))else(iR.l0 k a1 x9 l1 (I W ((I W (x4+1))-x1)) (bits .xor .u8 (at_ 0 a1 x4) x5) 1 (I W (x4+1))))))else(some (l1,x1))
def iR.f(k:Nat)(a1:List Int):Option (List Int×Int):=iR.l0 k a1 ([1]) ([1]) 0 1 1 0
theorem iR.calls{a1:List Int}{r:List Int×Int}(hf:(Rs.ah F_).inv w0)(h1:Zg F_ w0 v1_ a1)(E:iR.f k a1=some r):
 Calls aa 216 #[pt F_.p,v1_] w0 fun e w'=>∃(u0:Value),e= .returned (.tuple #[u0,ii r.2])∧St (Rs.ah F_).fp w0 w' [.ah F_,Y9 u0 r.1]:=by
 have H:=St.start hf
 unfold iR.f at E
 refine Zb func216 ?_
 refine A_ ?_
 refine ye (cL (e:=(.int .u8)) (l:=[1]) aN H z f_ ⟨z,z,acu⟩ f_ (fun v1 w H=>ye (cL (e:=(.int .u8)) (l:=[1]) aN H z f_ ⟨z,z,acu⟩ f_ (fun v2 w H=>?_))))
 obtain⟨p3,n4,c5,rfl⟩:=bX (H.Gt 1 z)
 obtain⟨p6,n7,c8,rfl⟩:=bX (H.Gt 2 z)
 refine vr (cf (cs:=[(.slice p3 n4 c5),ii 0,(.slice p6 n7 c8),iu 1,ii 1]) GJ z) (ye (cr Io H (fun b9 w H=>s_ (cy Ij H 3 z z z z z z (fun w H=>A_ ?_)))))
 refine bx (fun kk t w=>∃(l1 l2:List Int)(x1 x2 x3 x4:Int)(v3 v4:Value)(t1:Fr),kk≤k∧iR.l0 kk a1 l1 l2 x1 x2 x3 x4=some r∧t=aU t1 [(0,pt F_.p),(1,v1_),(4,sn),(5,ii 0),(6,pt b9),(15,ii (a1.length:Int)),(16,ii x4),Zc]∧St (Rs.ah F_).fp w0 w [.ah F_,Y9 v3 l1,Y9 v4 l2,.blk b9 #[v3,ii x1,v4,iu x2,ii x3] 352]) k Ze ?_
 rintro kk t w ⟨l1,l2,x1,x2,x3,x4,v3,v4,t1,hk1,E,rfl,H⟩
 obtain⟨k1,rfl⟩:=Zd kk
 rw[iR.l0]at E
 refine A_ ?_
 refine aE E z ?_ ?_<;>intro c1 E<;>refine A_ ?_
 ·refine cd (ds:=[]) bZ H z z ?_
  have H:=H.drew
  refine B_ [0,1] H ?_
  obtain⟨⟨g1,g2⟩,E⟩:=ar E
  refine B_ [2,3,4,5,6,7,8,9,10] H ?_
  refine wo 11 z (YL Hn H 0 E z (fun _=>jk.calls (H.Gt 0 z) (H.cb 1 0 z z z (ao (H.Gt 1 z))) (H.cj 0 z (H.rd h1))) (fun x5 E w H=>⟨fun _=>H.Y8 [0,1,2,3],B_ [12,13] (H.Y8 [0,1,2,3]) ?_⟩))
  refine aE E z ?_ ?_<;>intro c2 E
  ·refine A_ ?_
   refine s_ (cQ gJ H 3 z z z z z (fun w H=>A_ ?_))
   exact⟨k1,bL _,_,_,_,_,_,_,_,_,_,bK hk1,E,Za,H⟩
  refine aA (ab (aH (vr (bp (l:=[v3,ii x1,v4,iu x2,ii x3]) S4 (H.Gt 3 z) z z z) (A_ ?_))))
  refine ye (cm 53 [.agg #[v3,ii x1,v4,iu x2,ii x3],pt F_.p,iu (bits .xor .u8 (at_ 0 a1 x4) x5),ii x4] Wn func263 z z z z (rg (ye (bc (cs:=#[v3,ii x1,v4,iu x2,ii x3]) H z (fun b1 w H=>ye (cr Io H (fun b2 w H=>A_ ?_)))))))
  refine ye (YL Hd H 0 E z (fun _=>nJ.calls (H.Gt 0 z)) (fun x6 E w H=>A_ ?_))
  refine cd (ds:=[]) bZ H z z ?_
  have H:=H.drew
  refine B_ [0,1,2,3,4,5,6,7] H ?_
  refine wo 8 z (YM Wo H E (fun _=>Sx.calls (H.own 2 z (ao (H.Gt 2 z)))) (fun x7 E v5 w H=>⟨fun _=>H.Y8 [0,1,2,3,4,5],?_⟩))
  have H:St _ _ _ [_,_,_,_,_,_,_]:=H
  refine wo 9 z (YN zu H 0 E z (fun _=>ky.calls (H.Gt 0 z) (H.cb 6 0 z z z (ao (H.Gt 6 z)))) (fun x8 E v6 w H=>⟨fun _=>H.Y8 [0,1,2,3,4,5],?_⟩))
  refine wo 10 z (YM Ug H E (fun _=>Sp.calls (H.own 1 z (ao (H.Gt 1 z))) (H.own 7 z (ao (H.Gt 7 z)))) (fun x9 E v7 w H=>⟨fun _=>H.Y8 [0,1,2,3,4,5],B_ [11] (H.Y8 [0,1,2,3,4,5]) ?_⟩))
  refine aE E z ?_ ?_<;>intro c3 E<;>refine A_ ?_
  ·obtain⟨p1,n1,c4,rfl⟩:=bX (H.Gt 8 z)
   refine s_ (cQ pA H 4 z z z z z (fun w H=>vr (az zD z) (s_ (cQ gJ H 4 z z z z z (fun w H=>nl (rg (vr (bp (l:=[(.slice p1 n1 c4),ii x1,v4,iu x2,ii (I W (x3+1))]) S4 (H.Gt 4 z) z z z) ?_)))))))
   obtain⟨p2,n2,c6,rfl⟩:=bX (H.Gt 2 z)
   refine s_ (cy Ij H 5 z z z z z z (fun w H=>nl (aj (aL ⟨.inl z,.agg #[(.slice p1 n1 c4),ii x1,(.slice p2 n2 c6),iu x2,ii (I W (x3+1))],tk0 z ⟨ba z (dL z S4 (eG (n:=5) (H.Gt 5 z) z) z ai) z,?_⟩⟩))))
   have H:St _ _ _ [_,_,_,_,_,_,_,_,_]:=H
   refine s_ (cy Ij H 3 z z z z z z (fun w H=>A_ ?_))
   exact⟨k1,bL _,_,_,_,_,_,_,_,_,_,bK hk1,E,Za,H.Y8 [0,8,2,3]⟩
  obtain⟨p4,n3,c7,rfl⟩:=bX (H.Gt 8 z)
  obtain⟨p5,n5,c9,rfl⟩:=bX (H.Gt 1 z)
  refine vr (cf (cs:=[(.slice p4 n3 c7),ii (I W ((I W (x4+1))-x1)),(.slice p5 n5 c9),iu (bits .xor .u8 (at_ 0 a1 x4) x5),ii 1]) GJ d_) (s_ (cy Ij H 5 z z z z z z (fun w H=>nl (aj (⟨.inl z,.agg #[(.slice p4 n3 c7),ii (I W ((I W (x4+1))-x1)),(.slice p5 n5 c9),iu (bits .xor .u8 (at_ 0 a1 x4) x5),ii 1],tk0 z ⟨ba z (dL z S4 (eG (n:=5) (H.Gt 5 z) z) z ai) z,s_ (cy Ij H 3 z z z z z z (fun w H=>aK (aR (ab (aH (vr (aO z z) (vm (ii (I W (x4+1))) (aK ?_))))))))⟩⟩)))))
  exact⟨k1,bL _,_,_,_,_,_,_,_,_,_,bK hk1,E,Za,H.Y8 [0,8,1,3]⟩
 refine cd (ds:=[]) bZ H z z ?_
 have H:=H.drew
 refine B_ [0,1,2,3,4,5] H ?_
 cases E
 exact⟨.inl z,_,tk0 z ⟨aB z (ad (ad ai)),_,z,H.bN 0 1 z z z⟩⟩
def lV.l0:Nat→List Int→List Int→Int→Option (Bool)
 |0,_,_,_=>none
 |k+1,a0,l1,x1=>bif decide (x1<(a0.length:Int))then(an (decide ((0:Int)≤x1∧x1<(a0.length:Int))) (an (decide (-9223372036854775808≤at_ 0 a0 x1∧at_ 0 a0 x1≤9223372036854775807)) (bif l1.any (fun x=>decide (x=at_ 0 a0 x1))then(some true)else(an (decide (-9223372036854775808≤at_ 0 a0 x1∧at_ 0 a0 x1≤9223372036854775807∧l1.length*8≤140737488355328)) (lV.l0 k a0 (l1++[at_ 0 a0 x1]) (I W (x1+1)))))))else(some false)
def lV.f(k:Nat)(a0:List Int):Option (Bool):=lV.l0 k a0 ([]:List Int) 0
theorem lV.calls{a0:List Int}{r:Bool}(h0:Rd (.of (.int .i64)) w0 (Ol no w0) v0_ a0)(E:lV.f k a0=some r):
 Calls aa 167 #[v0_] w0 fun e w'=>e= .returned (.bool r)∧St no w0 w' []:=by
 have H:=St.nil no w0
 unfold lV.f at E
 refine Zb func167 ?_
 refine A_ ?_
 refine ye (Q6 H 3 (fun b1 w H=>A_ ?_))
 refine bx (fun kk t w=>∃(l1:List Int)(x1:Int)(t1:Fr),kk≤k∧lV.l0 kk a0 l1 x1=some r∧t=aU t1 [(2,.bool false),(3,.map (some b1)),(9,v0_),(10,ii (a0.length:Int)),(11,ii x1),Zc]∧St no w0 w [.mp aa 3 b1 l1]) k Ze ?_
 rintro kk t w ⟨l1,x1,t1,hk1,E,rfl,H⟩
 obtain⟨k26,rfl⟩:=Zd kk
 rw[lV.l0]at E
 refine A_ ?_
 refine aE E z ?_ ?_<;>intro c1 E<;>refine A_ ?_
 ·obtain⟨⟨g1,g2⟩,E⟩:=ar E
  refine A_ ?_
  obtain⟨⟨g3,g4⟩,E⟩:=ar E
  refine vr (XG underlying3 underlying194 Wv (H.Gt 0 z) z z g3 g4) (A_ ?_)
  refine ye (cr Ww H (fun b2 w H=>s_ (cy Wt H 1 z z z z z z (fun w H=>A_ ?_))))
  refine aE E z ?_ ?_<;>intro c2 E<;>refine A_ ?_
  ·cases E
   exact(aL (bG (aL (aL (bG (aL ⟨.inl z,_,tk0 z ⟨aB z (ad ai),z,H.bs⟩⟩))))))
  refine vr (cf (cs:=[]) Wm z) ?_
  obtain⟨⟨g5,g6,g7⟩,E⟩:=ar E
  refine s_ (YH underlying3 underlying194 H 0 z z z z g5 g6 u_ (fun w H=>A_ ?_))
  exact⟨k26,bL _,_,_,_,bK hk1,E,Za,H.Y8 [0]⟩
 cases E
 exact⟨.inl z,_,tk0 z ⟨aB z (ad ai),z,H.bs⟩⟩
def dA.j0(k:Nat)(a1:List Int)(x64:Int):Option (Int):=bif decide (0≤x64)then(some 13)else((lV.f k a1).bind fun x1=>bif x1 then(some 13)else(some 0))
def dA.j1(l0r:(Int×Int×Int)→List Int→Int→Option Int)(k:Nat)(a0:Int×Int×Int)(a1:List Int)(x1:Int)(x2:Bool):Option (Int):=bif x2 then(dA.j0 k a1 x1)else(l0r a0 a1 (I W (x1+1)))
def dA.l0:Nat→(Int×Int×Int)→List Int→Int→Option (Int)
 |0,_,_,_=>none
 |k+1,a0,a1,x1=>bif decide (x1<(a1.length:Int))then(an (decide ((0:Int)≤x1∧x1<(a1.length:Int))) (bif decide (at_ 0 a1 x1<0)then(dA.j1 (dA.l0 k) k a0 a1 x1 true)else(dA.j1 (dA.l0 k) k a0 a1 x1 (decide (a0.1≤at_ 0 a1 x1)))))else(dA.j0 k a1 (-1))
def dA.f(k:Nat)(a0:Int×Int×Int)(a1:List Int):Option (Int):=(dh.f (a0.1,a0.2.1,a0.2.2)).bind fun x2=>bif !decide (x2=0)then(some 10)else(dA.l0 k a0 a1 0)
theorem dA.calls{a0:Int×Int×Int}{a1:List Int}{r:Int}(h1:Rd (.of (.int .i64)) w0 (Ol no w0) v1_ a1)(E:dA.f k a0 a1=some r):
 Calls aa 106 #[.agg #[ii a0.1,ii a0.2.1,ii a0.2.2],v1_] w0 fun e w'=>e= .returned (.int .u16 r)∧St no w0 w' []:=by
 have H:=St.nil no w0
 unfold dA.f at E
 refine Zb func106 ?_
 refine rg (ye (bc (cs:=#[ii a0.1,ii a0.2.1,ii a0.2.2]) H z (fun b1 w H=>A_ ?_)))
 refine vr (dt [pt b1] z) (A_ ?_)
 refine vr (bp (l:=[ii a0.1,ii a0.2.1,ii a0.2.2]) cv (H.Gt 0 z) z z z) ?_
 refine ye (E9 jF H E (fun _=>dh.calls) (fun x2 E w H=>A_ ?_))
 refine aE E z ?_ ?_<;>intro c4 E<;>refine A_ ?_
 ·cases E
  exact(bG (aL ⟨.inl z,_,tk0 z ⟨aB z (ad ai),z,H.bs⟩⟩))
 refine ye (cm 9 [v1_,.func (.func 165) #[] #[pt b1]] GZ func166 z z z z (A_ ?_))
 refine ye (fZ (fun v w=>∃(k1:Nat)(x64:Int),k1≤k∧dA.j0 k1 a1 x64=some r∧v=ii x64∧St no w0 w [.blk b1 #[ii a0.1,ii a0.2.1,ii a0.2.2] 24]) ?_ ?_)
 ·refine cm 19 [v1_,.func (.func 165) #[] #[pt b1]] G9 func214 z z z z (A_ ?_)
  refine bx (fun kk t w=>∃(x1:Int)(t1:Fr),kk≤k∧dA.l0 kk a0 a1 x1=some r∧t=aU t1 [(0,v1_),(1,.func (.func 165) #[] #[pt b1]),(4,ii 0),(7,ii (a1.length:Int)),(8,ii x1),Zc]∧St no w0 w [.blk b1 #[ii a0.1,ii a0.2.1,ii a0.2.2] 24]) k Ze ?_
  rintro kk t w ⟨x1,t1,hk1,E,rfl,H⟩
  obtain⟨k2,rfl⟩:=Zd kk
  rw[dA.l0]at E
  refine A_ ?_
  refine aE E z ?_ ?_<;>intro c1 E<;>refine A_ ?_
  ·obtain⟨⟨g1,g2⟩,E⟩:=ar E
   refine A_ ?_
   refine ye (fZ (fun v w=>∃(k3:Nat)(x3:Bool),k3≤k2∧dA.j1 (dA.l0 k3) k3 a0 a1 x1 x3=some r∧v= .bool x3∧St no w0 w [.blk b1 #[ii a0.1,ii a0.2.1,ii a0.2.2] 24]) ?_ ?_)
   ·refine kK 12 [ii (at_ 0 a1 x1),pt b1] z GY func165 z z z z (A_ ?_)
    rcases bR (decide (at_ 0 a1 x1<0))with c2|c2
    ·have E:=iT c2 E
     refine A_ ?_
     exact⟨.inl z,.bool true,tk0 z ⟨ba z (ad ai) z,k2,_,aI _,E,z,H⟩⟩
    have E:=iF c2 E
    refine A_ ?_
    exact⟨.inl z,.bool (decide (a0.1≤at_ 0 a1 x1)),tk0 z ⟨ba z (ad ai) z,k2,_,aI _,E,z,H⟩⟩
   rintro _ w ⟨k3,x3,hk2,E,hv_,H⟩
   have hv_:=hv_.symm
   subst hv_
   unfold dA.j1 at E
   refine nl ?_
   refine aE E z ?_ ?_<;>intro c3 E<;>refine A_ ?_
   ·exact(bG (aL (aL (bG (aL ⟨.inl z,ii x1,tk0 z ⟨ba z (ad ai) z,k3,_,a_,E,z,H⟩⟩)))))
   exact⟨k3,a_,_,_,a_,E,Za,H⟩
  exact⟨.inl z,ii (-1),tk0 z ⟨ba z (ad ai) z,k2,_,a_,E,z,H⟩⟩
 rintro _ w ⟨k1,x64,hk3,E,hv_,H⟩
 have hv_:=hv_.symm
 subst hv_
 unfold dA.j0 at E
 refine A_ ?_
 refine⟨.inl z,.bool (decide (0≤x64)),tk0 z ⟨ba z (ad ai) z,va (.bool (decide (0≤x64))) (nl ?_)⟩⟩
 refine aE E z ?_ ?_<;>intro c5 E
 ·refine aA (ab (qo z c5 (A_ ?_)))
  cases E
  exact(bG (aL ⟨.inl z,_,tk0 z ⟨aB z (ad ai),z,H.bs⟩⟩))
 refine A_ ?_
 refine ye (E9 G0 H E (fun _=>lV.calls (H.arg (H.rd h1))) (fun x4 E w H=>A_ ?_))
 refine aE E z ?_ ?_<;>intro c6 E<;>refine A_ ?_
 ·cases E
  exact(bG (aL ⟨.inl z,_,tk0 z ⟨aB z (ad ai),z,H.bs⟩⟩))
 cases E
 exact⟨.inl z,_,tk0 z ⟨aB z (ad ai),z,H.bs⟩⟩
def qM.f(a0:Int):Option (Bool):=some (!decide (a0=0))
theorem qM.calls{a0:Int}{r:Bool}(E:qM.f a0=some r):
 Calls aa 350 #[iu a0] w0 fun e w'=>e= .returned (.bool r)∧St no w0 w' []:=by
 have H:=St.nil no w0
 unfold qM.f at E
 refine Zb func350 ?_
 refine A_ ?_
 cases E
 exact⟨.inl z,_,tk0 z ⟨aB z (ad ai),z,H.bs⟩⟩
def fo.j0(k:Nat)(x1:Int):Option (Bool):=some (!(decide (0≤x1)))
def fo.l0:Nat→List Int→Int→Option (Bool)
 |0,_,_=>none
 |k+1,x1,x2=>bif decide (x2<(x1.length:Int))then(an (decide ((0:Int)≤x2∧x2<(x1.length:Int))) ((qM.f (at_ 0 x1 x2)).bind fun x3=>bif x3 then(fo.j0 k x2)else(fo.l0 k x1 (I W (x2+1)))))else(fo.j0 k (-1))
def fo.f(k:Nat)(a1:Int×Int×Int)(a2:List Int):Option (Bool):=(dh.f (a1.1,a1.2.1,a1.2.2)).bind fun x6=>bif !decide (x6=0)then(some false)else(bif !decide ((a2.length:Int)=a1.1)then(some false)else((kl.f k (a1.1,a1.2.1,a1.2.2)).bind fun x1=>(eR.f k a2 x1).bind fun x2=>fo.l0 k x2 0))
theorem fo.calls{a1:Int×Int×Int}{a2:List Int}{r:Bool}(hf:(Rs.ah F_).inv w0)(h2:Zg F_ w0 v2_ a2)(E:fo.f k a1 a2=some r):
 Calls aa 323 #[pt F_.p,.agg #[ii a1.1,ii a1.2.1,ii a1.2.2],v2_] w0 fun e w'=>e= .returned (.bool r)∧St (Rs.ah F_).fp w0 w' [.ah F_]:=by
 have H:=St.start hf
 unfold fo.f at E
 refine Zb func323 ?_
 refine rg (ye (bc (cs:=#[ii a1.1,ii a1.2.1,ii a1.2.2]) H z (fun b1 w H=>A_ ?_)))
 refine oo z z (bp (l:=[ii a1.1,ii a1.2.1,ii a1.2.2]) cv (H.Gt 1 z) z z z) ?_
 refine dP z z z (E9 jF H E (fun _=>dh.calls) (fun x6 E w H=>A_ ?_))
 rcases bR (!decide (x6=0))with c8|c8
 ·have E:=iT c8 E
  refine A_ ?_
  cases E
  exact(aL ⟨.inl z,_,tk0 z ⟨aB z (ad ai),z,H.bA 0 z⟩⟩)
 have E:=iF c8 E
 refine A_ ?_
 refine aE E z ?_ ?_<;>intro c9 E<;>refine A_ ?_
 ·cases E
  exact(aL ⟨.inl z,_,tk0 z ⟨aB z (ad ai),z,H.bA 0 z⟩⟩)
 refine vr (bp (l:=[ii a1.1,ii a1.2.1,ii a1.2.2]) cv (H.Gt 1 z) z z z) ?_
 refine ye (YN ve H 0 E z (fun _=>kl.calls (H.Gt 0 z)) (fun x1 E v1 w H=>?_))
 refine ye (YN qU H 0 E z (fun _=>eR.calls (H.Gt 0 z) (H.cj 0 z (H.rd h2)) (H.cb 2 0 z z z (ao (H.Gt 2 z)))) (fun x2 E v2 w H=>ye (cm 9 [v2,.func (.func 350) #[] #[]] HU func349 z z z z (A_ ?_))))
 refine ye (fZ (fun v w=>∃(k1:Nat)(x3:Int),k1≤k∧fo.j0 k1 x3=some r∧v=ii x3∧St (Rs.ah F_).fp w0 w [.ah F_,.blk b1 #[ii a1.1,ii a1.2.1,ii a1.2.2] 24,Y9 v1 x1,Y9 v2 x2]) ?_ ?_)
 ·refine cm 19 [v2,.func (.func 350) #[] #[]] H4 func373 z z z z (A_ ?_)
  refine bx (fun kk t w=>∃(x4:Int)(t1:Fr),kk≤k∧fo.l0 kk x2 x4=some r∧t=aU t1 [(0,v2),(1,.func (.func 350) #[] #[]),(4,ii 0),(7,ii (x2.length:Int)),(8,ii x4),Zc]∧St (Rs.ah F_).fp w0 w [.ah F_,.blk b1 #[ii a1.1,ii a1.2.1,ii a1.2.2] 24,Y9 v1 x1,Y9 v2 x2]) k Ze ?_
  rintro kk t w ⟨x4,t1,hk1,E,rfl,H⟩
  obtain⟨k2,rfl⟩:=Zd kk
  rw[fo.l0]at E
  refine A_ ?_
  refine aE E z ?_ ?_<;>intro c1 E<;>refine A_ ?_
  ·obtain⟨⟨g1,g2⟩,E⟩:=ar E
   refine A_ ?_
   obtain⟨x5,E3,E⟩:=ay E
   refine ye (kZ z HV z ((qM.calls E3).mono ?_))
   rintro _ w ⟨rfl,K⟩
   have H:=H.app K
   refine⟨_,z,nl ?_⟩
   refine aE E z ?_ ?_<;>intro c2 E<;>refine A_ ?_
   ·exact(bG (aL (aL (bG (aL ⟨.inl z,ii x4,tk0 z ⟨ba z (ad ai) z,k2,_,a_,E,z,H⟩⟩)))))
   exact⟨k2,bL _,_,_,bK hk1,E,Za,H⟩
  exact⟨.inl z,ii (-1),tk0 z ⟨ba z (ad ai) z,k2,_,a_,E,z,H⟩⟩
 rintro _ w ⟨k1,x3,hk2,E,hv_,H⟩
 have hv_:=hv_.symm
 subst hv_
 unfold fo.j0 at E
 refine A_ ?_
 refine⟨.inl z,.bool (decide (0≤x3)),tk0 z ⟨ba z (ad ai) z,vr (cp z) (va (.bool (!(decide (0≤x3)))) (nl (aj ?_)))⟩⟩
 cases E
 exact⟨.inl z,_,tk0 z ⟨aB z (ad ai),z,H.bA 0 z⟩⟩
def oZ.f(a0:Int×Int×Int)(a1 a2:Int):Option (Bool):=(gf.f (a0.1,a0.2.1,a0.2.2)).bind fun x2=>bif decide (x2=0)then(some false)else(bif decide (a1<0)then(some false)else(bif decide (a2<0)then(some false)else(bif decide (x2<a1)then(some false)else(bif decide (x2<a2)then(some false)else(some (decide (I W (I W (2*a1)+a2)≤x2)))))))
theorem oZ.calls{a0:Int×Int×Int}{a1 a2:Int}{r:Bool}(E:oZ.f a0 a1 a2=some r):
 Calls aa 325 #[.agg #[ii a0.1,ii a0.2.1,ii a0.2.2],ii a1,ii a2] w0 fun e w'=>e= .returned (.bool r)∧St no w0 w' []:=by
 have H:=St.nil no w0
 unfold oZ.f at E
 refine Zb func325 ?_
 refine rg (ye (bc (cs:=#[ii a0.1,ii a0.2.1,ii a0.2.2]) H z (fun b1 w H=>A_ ?_)))
 refine vr (bp (l:=[ii a0.1,ii a0.2.1,ii a0.2.2]) cv (H.Gt 0 z) z z z) ?_
 refine ye (E9 pf H E (fun _=>gf.calls) (fun x2 E w H=>A_ ?_))
 rcases bR (decide (x2=0))with c4|c4
 ·have E:=iT c4 E
  refine A_ ?_
  cases E
  exact(aL ⟨.inl z,_,tk0 z ⟨aB z (ad ai),z,H.bs⟩⟩)
 have E:=iF c4 E
 refine A_ ?_
 rcases bR (decide (a1<0))with c5|c5
 ·have E:=iT c5 E
  refine A_ ?_
  cases E
  exact(aL ⟨.inl z,_,tk0 z ⟨aB z (ad ai),z,H.bs⟩⟩)
 have E:=iF c5 E
 refine A_ ?_
 rcases bR (decide (a2<0))with c6|c6
 ·have E:=iT c6 E
  refine A_ ?_
  cases E
  exact(aL ⟨.inl z,_,tk0 z ⟨aB z (ad ai),z,H.bs⟩⟩)
 have E:=iF c6 E
 refine A_ ?_
 rcases bR (decide (x2<a1))with c7|c7
 ·have E:=iT c7 E
  refine A_ ?_
  cases E
  exact(aL ⟨.inl z,_,tk0 z ⟨aB z (ad ai),z,H.bs⟩⟩)
 have E:=iF c7 E
 refine A_ ?_
 refine aE E z ?_ ?_<;>intro c8 E<;>refine A_ ?_
 ·cases E
  exact(aL ⟨.inl z,_,tk0 z ⟨aB z (ad ai),z,H.bs⟩⟩)
 cases E
 exact⟨.inl z,_,tk0 z ⟨aB z (ad ai),z,H.bs⟩⟩
def fW.l0:Nat→List Int→Int→Int→Option (Int)
 |0,_,_,_=>none
 |k+1,a0,a1,x6=>bif decide (x6<(a0.length:Int))then(an (decide ((0:Int)≤x6∧x6<(a0.length:Int))) (bif decide (a1=at_ 0 a0 x6)then(some x6)else(fW.l0 k a0 a1 (I W (x6+1)))))else(some (-1))
def fW.f(k:Nat)(a0:List Int)(a1:Int):Option (Int):=fW.l0 k a0 a1 0
theorem fW.calls{a0:List Int}{a1:Int}{r:Int}(h0:Rd (.of (.int .i64)) w0 (Ol no w0) v0_ a0)(E:fW.f k a0 a1=some r):
 Calls aa 273 #[v0_,ii a1] w0 fun e w'=>e= .returned (ii r)∧St no w0 w' []:=by
 have H:=St.nil no w0
 unfold fW.f at E
 refine Zb func273 ?_
 refine A_ ?_
 refine bx (fun kk t w=>∃(x6:Int)(t1:Fr),kk≤k∧fW.l0 kk a0 a1 x6=some r∧t=aU t1 [(0,v0_),(1,ii a1),(4,ii 0),(7,ii (a0.length:Int)),(8,ii x6),Zc]∧St no w0 w []) k Ze ?_
 rintro kk t w ⟨x6,t1,hk1,E,rfl,H⟩
 obtain⟨k12,rfl⟩:=Zd kk
 rw[fW.l0]at E
 refine A_ ?_
 refine aE E z ?_ ?_<;>intro c1 E<;>refine A_ ?_
 ·obtain⟨⟨g1,g2⟩,E⟩:=ar E
  refine A_ ?_
  refine aE E z ?_ ?_<;>intro c2 E<;>refine A_ ?_
  ·cases E
   exact(bG (aL (aL (bG (aL ⟨.inl z,_,tk0 z ⟨aB z (ad ai),z,H.bs⟩⟩)))))
  exact⟨k12,bL _,_,_,bK hk1,E,Za,H⟩
 cases E
 exact⟨.inl z,_,tk0 z ⟨aB z (ad ai),z,H.bs⟩⟩
def jb.f(k:Nat)(a0:List Int)(a1:Int):Option (Bool):=(fW.f k a0 a1).bind fun x1=>some (decide (0≤x1))
theorem jb.calls{a0:List Int}{a1:Int}{r:Bool}(h0:Rd (.of (.int .i64)) w0 (Ol no w0) v0_ a0)(E:jb.f k a0 a1=some r):
 Calls aa 222 #[v0_,ii a1] w0 fun e w'=>e= .returned (.bool r)∧St no w0 w' []:=by
 have H:=St.nil no w0
 unfold jb.f at E
 refine Zb func222 ?_
 refine A_ ?_
 refine ye (E9 Ht H E (fun _=>fW.calls (H.arg (H.rd h0))) (fun x1 E w H=>A_ ?_))
 cases E
 exact⟨.inl z,_,tk0 z ⟨aB z (ad ai),z,H.bs⟩⟩
def gG.l0:Nat→List Int→List Int→List Int→Int→Int→Option (Int)
 |0,_,_,_,_,_=>none
 |k+1,a0,a1,a2,x1,x2=>bif decide (x2<(((a1.take ((min2 (a0.length:Int) (a1.length:Int)).toNat)).drop 0).length:Int))then(an (decide ((0:Int)≤x2∧x2<(((a1.take ((min2 (a0.length:Int) (a1.length:Int)).toNat)).drop 0).length:Int))) (an (decide ((0:Int)≤x2∧x2<(a0.length:Int))) (bif !decide (at_ 0 a0 x2=at_ 0 ((a1.take ((min2 (a0.length:Int) (a1.length:Int)).toNat)).drop 0) x2)then((jb.f k a2 x2).bind fun x3=>bif !x3 then(gG.l0 k a0 a1 a2 (I W (x1+1)) (I W (x2+1)))else(gG.l0 k a0 a1 a2 x1 (I W (x2+1))))else(gG.l0 k a0 a1 a2 x1 (I W (x2+1))))))else(some x1)
def gG.f(k:Nat)(a0 a1 a2:List Int):Option (Int):=an (decide ((0:Int)≤min2 (a0.length:Int) (a1.length:Int)∧min2 (a0.length:Int) (a1.length:Int)≤(a1.length:Int))) (gG.l0 k a0 a1 a2 0 0)
theorem gG.calls{a0 a1 a2:List Int}{r:Int}(h0:Zf no w0 v0_ a0)(h1:Zf no w0 v1_ a1)(h2:Rd (.of (.int .i64)) w0 (Ol no w0) v2_ a2)(E:gG.f k a0 a1 a2=some r):
 Calls aa 326 #[v0_,v1_,v2_] w0 fun e w'=>e= .returned (ii r)∧St no w0 w' []:=by
 have H:=St.nil no w0
 unfold gG.f at E
 refine Zb func326 ?_
 have H:=H.mk0
 refine rg ?_
 obtain⟨p1,n2,c3,rfl⟩:=eO h2
 refine ye (bc (cs:=#[(.slice p1 n2 c3)]) H z (fun b4 w H=>A_ ?_))
 refine ye (cr vA H (fun b5 w H=>s_ (cQ gJ H 2 z z z z z (fun w H=>A_ ?_))))
 refine ye (cm 6 [v0_,v1_] zr func229 z z z z (rg ?_))
 obtain⟨p2,n1,c1,rfl⟩:=eO h0
 refine ye (bc (cs:=#[(.slice p2 n1 c1)]) H z (fun b1 w H=>?_))
 obtain⟨p3,n3,c2,rfl⟩:=eO h1
 refine ye (bc (cs:=#[(.slice p3 n3 c2)]) H z (fun b2 w H=>?_))
 have H:St _ _ _ [_,_,_,_,_]:=H
 refine A_ ?_
 refine vr (dt [pt b2,pt b1] z) (A_ ?_)
 refine⟨.inl z,.func (.func 281) #[] #[pt b2,pt b1],tk0 z ⟨ba z (ad ai) z,nl (aG (je 33 [pt b2,pt b1] z func281 z z z z z H 0 z z (fun v1 b3 o1 w hO1 H=>rg (vr (av bQ z (ak (H.Gt 4 z) z)) (vr (av bQ z (ak (H.Gt 3 z) z)) (vr (aY bI (H.rd h0) z) (vr (av bQ z (ak (H.Gt 4 z) z)) (vr (aY bI (H.rd h1) z) (vr (kA z z) ?_)))))))))⟩⟩
 obtain⟨⟨g1,g2⟩,E⟩:=ar E
 have p4:0≤(min2 (a0.length:Int) (a1.length:Int)).toNat:=a_
 have p5:(min2 (a0.length:Int) (a1.length:Int)).toNat≤a1.length:=a_
 refine vr (fU aN (H.rd h1) z z g1 g2) (vr (aY bI (Rd.bz (H.rd h1) p4 p5) z) (A_ ?_))
 refine bx (fun kk t w=>∃(x1 x2:Int)(t1:Fr),kk≤k∧gG.l0 kk a0 a1 a2 x1 x2=some r∧t=aU t1 [(0,.func (.yield b3) #[] #[]),(2,pt b1),(12,bz (.slice p3 n3 c2) 0 ((min2 (a0.length:Int) (a1.length:Int)).toNat) 1),(13,ii (((a1.take ((min2 (a0.length:Int) (a1.length:Int)).toNat)).drop 0).length:Int)),(14,ii x2),Zc]∧St no w0 w [.bO v1,.blk b4 #[(.slice p1 n2 c3)] 28,.blk b5 #[ii x1] 3,.blk b1 #[(.slice p2 n1 c1)] 22,.blk b2 #[(.slice p3 n3 c2)] 22,.obj b3 (.loop o1)]) k Ze ?_
 rintro kk t w ⟨x1,x2,t1,hk1,E,rfl,H⟩
 obtain⟨k1,rfl⟩:=Zd kk
 rw[gG.l0]at E
 refine A_ ?_
 refine aE E z ?_ ?_<;>intro c4 E<;>refine A_ ?_
 ·obtain⟨⟨g3,g4⟩,E⟩:=ar E
  refine vr (bo aN (Rd.bz (H.rd h1) p4 p5) z z g3 g4) (vr (bq bC (Rd.bz (H.rd h1) p4 p5) g3 g4 z) (A_ ?_))
  obtain⟨⟨g5,g6⟩,E⟩:=ar E
  refine A_ ?_
  rcases bR (!decide (at_ 0 a0 x2=at_ 0 ((a1.take ((min2 (a0.length:Int) (a1.length:Int)).toNat)).drop 0) x2))with c5|c5
  ·have E:=iT c5 E
   refine A_ ?_
   refine dP z c5 z (jf [ii x2,iu (at_ 0 ((a1.take ((min2 (a0.length:Int) (a1.length:Int)).toNat)).drop 0) x2)] z z H 5 z hO1 z z (A_ ?_))
   refine yB H 5 z hO1 (fun w H=>A_ ?_)
   refine ye (E9 vk H E (fun _=>jb.calls (H.arg (H.rd h2))) (fun x3 E w H=>A_ ?_))
   refine aE E z ?_ ?_<;>intro c6 E
   ·refine A_ ?_
    refine s_ (cQ gJ H 2 z z z z z (fun w H=>aK (aR (yN H 5 z hO1 (fun w H=>A_ ?_)))))
    exact⟨k1,bL _,_,_,_,bK hk1,E,Za,H⟩
   refine aA (aR (yN H 5 z hO1 (fun w H=>A_ ?_)))
   exact⟨k1,bL _,_,_,_,bK hk1,E,Za,H⟩
  have E:=iF c5 E
  refine A_ ?_
  exact⟨k1,bL _,_,_,_,bK hk1,E,Za,H⟩
 refine⟨.inr z,.tuple #[],tk0 z ⟨ba z ai z,ji H 5 z hO1 (fun w H=>aR (ab (rg (vr (av bf z (ak (H.Gt 2 z) z)) (va (ii x1) (nl (aj ?_)))))))⟩⟩
 cases E
 exact⟨.inl z,_,gT H 0 z z (fun w H=>⟨aB z (ad ai),z,H.bs⟩)⟩
def lr.f(k:Nat)(a1:Int×Int×Int)(a2 a3 a4:List Int):Option (Bool):=bif !(decide ((a2.length:Int)=a1.1))then(some false)else((dA.f k (a1.1,a1.2.1,a1.2.2) a3).bind fun x1=>bif !(decide (x1=0))then(some false)else((fo.f k (a1.1,a1.2.1,a1.2.2) a4).bind fun x2=>bif !x2 then(some false)else((gG.f k a2 a4 a3).bind fun x3=>(oZ.f (a1.1,a1.2.1,a1.2.2) x3 (a3.length:Int)).bind fun x4=>bif !x4 then(some false)else(some true))))
theorem lr.calls{a1:Int×Int×Int}{a2 a3 a4:List Int}{r:Bool}(hf:(Rs.ah F_).inv w0)(h2:Zg F_ w0 v2_ a2)(h3:Rd (.of (.int .i64)) w0 (Ol (Rs.ah F_).fp w0) v3_ a3)(h4:Zg F_ w0 v4_ a4)(E:lr.f k a1 a2 a3 a4=some r):
 Calls aa 279 #[pt F_.p,.agg #[ii a1.1,ii a1.2.1,ii a1.2.2],v2_,v3_,v4_] w0 fun e w'=>e= .returned (.bool r)∧St (Rs.ah F_).fp w0 w' [.ah F_]:=by
 have H:=St.start hf
 unfold lr.f at E
 refine Zb func279 ?_
 refine rg (ye (bc (cs:=#[pt F_.p]) H z (fun b1 w H=>ye (bc (cs:=#[ii a1.1,ii a1.2.1,ii a1.2.2]) H z (fun b2 w H=>?_)))))
 obtain⟨p3,n4,c5,rfl⟩:=eO h2
 refine ye (bc (cs:=#[(.slice p3 n4 c5)]) H z (fun b6 w H=>?_))
 obtain⟨p7,n8,c9,rfl⟩:=eO h3
 refine ye (bc (cs:=#[(.slice p7 n8 c9)]) H z (fun b3 w H=>?_))
 obtain⟨p1,n1,c1,rfl⟩:=eO h4
 refine ye (bc (cs:=#[(.slice p1 n1 c1)]) H z (fun b4 w H=>?_))
 have H:St _ _ _ [_,_,_,_,_,_]:=H
 refine A_ ?_
 refine vr (dt [pt b1,pt b6,pt b2] z) (vr (dt [pt b2,pt b3] z) (vr (dt [pt b1,pt b2,pt b4] z) (vr (dt [pt b2,pt b6,pt b4,pt b3] z) (vr (ff (cs:=[.func (.func 320) #[] #[pt b1,pt b6,pt b2],.func (.func 321) #[] #[pt b2,pt b3],.func (.func 322) #[] #[pt b1,pt b2,pt b4],.func (.func 324) #[] #[pt b2,pt b6,pt b4,pt b3]]) qS z) (A_ ?_)))))
 refine se (wu (A_ ?_))
 refine vr (ug qS z z f_ f_ z) (A_ ?_)
 refine ye (kK 13 [pt b1,pt b6,pt b2] z HJ func320 z z z z (A_ ?_))
 refine⟨.inl z,.bool (decide ((a2.length:Int)=a1.1)),tk0 z ⟨ba z (ad ai) z,vr (cp z) (nl ?_)⟩⟩
 refine aE E z ?_ ?_<;>intro c2 E<;>refine A_ ?_
 ·cases E
  exact(bG (aL (aL (bG (aL ⟨.inl z,_,tk0 z ⟨aB z (ad ai),z,H.bA 0 z⟩⟩)))))
 refine wu (A_ ?_)
 refine vr (ug qS z z f_ f_ z) (A_ ?_)
 refine ye (kK 7 [pt b2,pt b3] z HK func321 z z z z (A_ ?_))
 refine vr (bp (l:=[ii a1.1,ii a1.2.1,ii a1.2.2]) cv (H.Gt 2 z) z z z) (A_ ?_)
 refine ye (E9 zi H E (fun _=>dA.calls (H.arg (H.rd h3))) (fun x1 E w H=>A_ ?_))
 refine⟨.inl z,.bool (decide (x1=0)),tk0 z ⟨ba z (ad ai) z,vr (cp z) (nl ?_)⟩⟩
 refine aE E z ?_ ?_<;>intro c3 E<;>refine A_ ?_
 ·cases E
  exact(bG (aL (aL (bG (aL ⟨.inl z,_,tk0 z ⟨aB z (ad ai),z,H.bA 0 z⟩⟩)))))
 refine wu (A_ ?_)
 refine vr (ug qS z z f_ f_ z) (A_ ?_)
 refine ye (kK 8 [pt b1,pt b2,pt b4] z HL func322 z z z z (A_ ?_))
 refine vr (bp (l:=[ii a1.1,ii a1.2.1,ii a1.2.2]) cv (H.Gt 2 z) z z z) (A_ ?_)
 refine ye (YL HM H 0 E z (fun _=>fo.calls (H.Gt 0 z) (H.cj 0 z (H.rd h4))) (fun x2 E w H=>A_ ?_))
 refine⟨.inl z,.bool x2,tk0 z ⟨ba z (ad ai) z,vr (cp z) (nl ?_)⟩⟩
 refine aE E z ?_ ?_<;>intro c4 E<;>refine A_ ?_
 ·cases E
  exact(bG (aL (aL (bG (aL ⟨.inl z,_,tk0 z ⟨aB z (ad ai),z,H.bA 0 z⟩⟩)))))
 refine wu (A_ ?_)
 refine vr (ug qS z z f_ f_ z) (A_ ?_)
 refine ye (kK 13 [pt b2,pt b6,pt b4,pt b3] z HN func324 z z z z (A_ ?_))
 refine cd (ds:=[]) bZ H z z ?_
 have H:=H.drew
 refine wz 0 z H (fun w H=>bp (l:=[ii a1.1,ii a1.2.1,ii a1.2.2]) cv (H.Gt 2 z) z z z) (B_ [1,2,3,5,6] H ?_)
 refine wo 4 z (E9 HP H E (fun _=>gG.calls (H.arg (H.rd h2)) (H.arg (H.rd h4)) (H.arg (H.rd h3))) (fun x3 E w H=>⟨fun _=>H.Y8 [0,1,2,3,4,5],?_⟩))
 refine wo 7 z (E9 HO H E (fun _=>oZ.calls) (fun x4 E w H=>⟨fun _=>H.Y8 [0,1,2,3,4,5],B_ [8] (H.Y8 [0,1,2,3,4,5]) ?_⟩))
 refine⟨.inl z,.bool x4,tk0 z ⟨ba z (ad ai) z,vr (cp z) (nl ?_)⟩⟩
 refine aE E z ?_ ?_<;>intro c6 E<;>refine A_ ?_
 ·cases E
  exact(bG (aL (aL (bG (aL ⟨.inl z,_,tk0 z ⟨aB z (ad ai),z,H.bA 0 z⟩⟩)))))
 refine wu (A_ ?_)
 cases E
 exact⟨.inl z,_,tk0 z ⟨aB z (ad ai),z,H.bA 0 z⟩⟩
end Go.Proofs.YtmhkpafkadijgaaGreatDoor.Gw
