/- A part of the proof of Rows.PlayDecodesCardSaid; the conditions are that card's own. -/
import Derived.Test.YtmhkpafkadijgaaGreatDoorQ14
set_option linter.all false
set_option maxRecDepth 100000
set_option maxHeartbeats 4000000
namespace Go.Proofs.YtmhkpafkadijgaaGreatDoor.Gw
open Go.IntKind renaming wrap→I,i64→W
open Go Go.RowKit
variable[de]
open Go.IntKind (i8 i16 i32 i64 u8 u16 u32 u64)
open Tryz hiding prog
open Tryz renaming prog → aa
variable{w0:World}{k:Nat}{F_:FD}{v0_ v0_4_ v0_5_ v1_ v2_ v3_ v4_:Value}
def cE.j0(l1r:(Int×Int×Int)→List (Int)→List (Int)→List (Int)→Int→Option (List Int))(k:Nat)(a1:Int×Int×Int)(x1:List Int)(l1:List Int):Option (List Int):=l1r a1 l1 x1 ([]:List Int) 0
def cE.j2(l1r:(Int×Int×Int)→List (Int)→List (Int)→List (Int)→Int→Option (List Int))(k:Nat)(a1:Int×Int×Int)(l1 l2:List Int)(x1:Int)(l3:List Int):Option (List Int):=(jJ.f l2 l1).bind fun x2=>l1r a1 l1 x2 l3 (I W (x1+1))
def cE.j1(l1r:(Int×Int×Int)→List (Int)→List (Int)→List (Int)→Int→Option (List Int))(k:Nat)(a1:Int×Int×Int)(l1 l2 l3:List Int)(x1 x2:Int):Option (List Int):=bif decide (x2=0)then(an (decide ((l3.length+([x1]).length)*8≤140737488355328)) (cE.j2 l1r k a1 l1 l2 x1 (l3++([x1]))))else(cE.j2 l1r k a1 l1 l2 x1 l3)
mutual
def cE.l0:Nat→(Int×Int×Int)→List Int→List Int→List (Int)→Int→Option (List Int)
 |0,_,_,_,_,_=>none
 |k+1,a1,a2,x1,l1,x2=>bif decide (x2<((List.replicate (a2.length:Int).toNat (0:Int)).length:Int))then((kj.f (I W (-x2))).bind fun x3=>an (decide ((0:Int)≤x2∧x2<(l1.length:Int))) (cE.l0 k a1 a2 x1 (l1.set x2.toNat x3) (I W (x2+1))))else(cE.j0 (cE.l1 k) k a1 x1 l1)
def cE.l1:Nat→(Int×Int×Int)→List (Int)→List (Int)→List (Int)→Int→Option (List Int)
 |0,_,_,_,_,_=>none
 |k+1,a1,l2,l3,l4,x4=>bif decide (x4<a1.1)then(cE.l2 k a1 l2 l3 l4 x4 0 0)else(some l4)
def cE.l2:Nat→(Int×Int×Int)→List (Int)→List (Int)→List (Int)→Int→Int→Int→Option (List Int)
 |0,_,_,_,_,_,_,_=>none
 |k+1,a1,l2,l3,l4,x4,x5,x6=>bif decide (x6<(l3.length:Int))then(an (decide ((0:Int)≤x6∧x6<(l3.length:Int))) (cE.l2 k a1 l2 l3 l4 x4 (bits .xor .u8 x5 (at_ 0 l3 x6)) (I W (x6+1))))else(cE.j1 (cE.l1 k) k a1 l2 l3 l4 x4 x5)
end
def cE.f(k:Nat)(a1:Int×Int×Int)(a2:List Int):Option (List Int):=(dh.f (a1.1,a1.2.1,a1.2.2)).bind fun x5=>bif !decide (x5=0)then(some ([]:List Int))else((dM.f a2).bind fun x1=>an (decide ((0:Int)≤(a2.length:Int)∧(a2.length:Int)≤(a2.length:Int)∧(a2.length:Int)≤140737488355328)) (cE.l0 k a1 a2 x1 (List.replicate (a2.length:Int).toNat (0:Int)) 0))
theorem cE.calls{a1:Int×Int×Int}{a2:List Int}{r:List Int}(hf:(Rs.ah F_).inv w0)(h2:Zg F_ w0 v2_ a2)(E:cE.f k a1 a2=some r):
 Calls aa 265 #[pt F_.p,.agg #[ii a1.1,ii a1.2.1,ii a1.2.2],v2_] w0 fun e w'=>∃(u0:Value),e= .returned (u0)∧St (Rs.ah F_).fp w0 w' [.ah F_,Zh u0 r]:=by
 have H:=St.start hf
 unfold cE.f at E
 refine Zb func265 ?_
 refine rg (ye (bc (cs:=#[ii a1.1,ii a1.2.1,ii a1.2.2]) H z (fun b1 w H=>A_ ?_)))
 refine oo z z (bp (l:=[ii a1.1,ii a1.2.1,ii a1.2.2]) cv (H.Gt 1 z) z z z) ?_
 refine dP z z z (E9 jF H E (fun _=>dh.calls) (fun x5 E w H=>A_ ?_))
 refine aE E z ?_ ?_<;>intro c7 E<;>refine A_ ?_
 ·have H:=H.bB (.int .i64) 3
  cases E
  exact(aL ⟨.inl z,_,tk0 z ⟨aB z (ad ai),_,z,H.bN 0 2 z z z⟩⟩)
 refine ye (cm 8 [pt F_.p,ii a1.1,v2_] HA func309 z z z z (rg (ye (bc (cs:=#[pt F_.p]) H z (fun b2 w H=>ye (bc (cs:=#[ii a1.1]) H z (fun b3 w H=>?_)))))))
 obtain⟨p1,n1,c1,rfl⟩:=eO h2
 refine ye (bc (cs:=#[(.slice p1 n1 c1)]) H z (fun b4 w H=>?_))
 have H:St _ _ _ [_,_,_,_,_]:=H
 refine A_ ?_
 refine vr (dt [pt b4,pt b2,pt b3] z) (A_ ?_)
 refine⟨.inl z,.func (.func 342) #[] #[pt b4,pt b2,pt b3],tk0 z ⟨ba z (ad ai) z,ye (cm 5 [.func (.func 342) #[] #[pt b4,pt b2,pt b3]] G8 func186 z z z z (rg (va sn (nl (rg (vm (.func (.func 342) #[] #[pt b4,pt b2,pt b3]) (ye (cm 13 [sn,.func (.func 342) #[] #[pt b4,pt b2,pt b3]] Hj func237 z z z z ?_))))))))⟩⟩
 have H:=H.mk0
 refine rg (ye (bc (cs:=#[sn]) H z (fun b5 w H=>A_ ?_)))
 refine je 57 [pt b4,pt b2,pt b3] z func342 z z z z z H 5 z z (fun v1 b6 o1 w hO1 H=>A_ ?_)
 refine ye (YM nD H E (fun _=>dM.calls (H.arg (H.rd h2))) (fun x1 E v2 w H=>A_ ?_))
 obtain⟨⟨g1,g2,g3⟩,E⟩:=ar E
 refine ye (ee (e:=(.int .u8)) (z0:=0) aN z H z z g1 g2 a_ a_ (fun v3 w H=>J_ ?_))
 refine cA (fun t w=>∃(k1:Nat)(l1:List Int)(t1:Fr),k1≤k∧cE.j0 (cE.l1 k1) k1 a1 x1 l1=some r∧t=aU t1 [(0,.func (.yield b6) #[] #[]),(2,pt b2),(3,pt b3),(5,v2),(6,v3),Zc]∧St (Rs.ah F_).fp w0 w [.ah F_,.blk b1 #[ii a1.1,ii a1.2.1,ii a1.2.2] 24,.blk b2 #[pt F_.p] 111,.blk b3 #[ii a1.1] 3,.blk b4 #[(.slice p1 n1 c1)] 22,.bO v1,.blk b5 #[sn] 28,.obj b6 (.loop o1),Y9 v2 x1,Y9 v3 l1]) ?_ ?_
 ·refine A_ ?_
  refine bx (fun kk t w=>∃(l2:List Int)(x2:Int)(t2:Fr),kk≤k∧cE.l0 kk a1 a2 x1 l2 x2=some r∧t=aU t2 [(0,.func (.yield b6) #[] #[]),(2,pt b2),(3,pt b3),(5,v2),(6,v3),(18,ii ((List.replicate (a2.length:Int).toNat (0:Int)).length:Int)),(19,ii x2),Zc]∧St (Rs.ah F_).fp w0 w [.ah F_,.blk b1 #[ii a1.1,ii a1.2.1,ii a1.2.2] 24,.blk b2 #[pt F_.p] 111,.blk b3 #[ii a1.1] 3,.blk b4 #[(.slice p1 n1 c1)] 22,.bO v1,.blk b5 #[sn] 28,.obj b6 (.loop o1),Y9 v2 x1,Y9 v3 l2]) k Ze ?_
  rintro kk t w ⟨l2,x2,t2,hk1,E,rfl,H⟩
  obtain⟨k2,rfl⟩:=Zd kk
  rw[cE.l0]at E
  refine A_ ?_
  refine aE E z ?_ ?_<;>intro c2 E<;>refine A_ ?_
  ·refine ye (YL vh H 0 E z (fun _=>kj.calls (H.Gt 0 z)) (fun x3 E w H=>?_))
   obtain⟨⟨g4,g5⟩,E⟩:=ar E
   refine A_ ?_
   refine s_ (dc dB H 9 z g4 g5 z z (fun w H=>A_ ?_))
   exact⟨k2,bL _,_,_,_,bK hk1,E,Za,H⟩
  exact⟨k2,_,_,a_,E,Za,H⟩
 rintro t w ⟨k1,l1,t1,hk2,E,rfl,H⟩
 unfold cE.j0 at E
 refine A_ ?_
 have H:=H.bB (.int .i64) 3
 refine bx (fun kk t w=>∃(l3 l4:List Int)(x4:Int)(v4 v5:Value)(t3:Fr),kk≤k1∧cE.l1 kk a1 l1 l3 l4 x4=some r∧t=aU t3 [(0,.func (.yield b6) #[] #[]),(2,pt b2),(5,v4),(6,v3),(30,ii a1.1),(31,ii x4),Zc]∧St (Rs.ah F_).fp w0 w [.ah F_,.blk b1 #[ii a1.1,ii a1.2.1,ii a1.2.2] 24,.blk b2 #[pt F_.p] 111,.blk b3 #[ii a1.1] 3,.blk b4 #[(.slice p1 n1 c1)] 22,.bO v1,.blk b5 #[v5] 28,.obj b6 (.loop o1),Y9 v4 l3,Y9 v3 l1,Zh v5 l4]) k1 Ze ?_
 rintro kk t w ⟨l3,l4,x4,v4,v5,t3,hk3,E,rfl,H⟩
 obtain⟨k3,rfl⟩:=Zd kk
 rw[cE.l1]at E
 refine A_ ?_
 refine aE E z ?_ ?_<;>intro c3 E
 ·refine aA (ab (ae (J_ ?_)))
  refine cA (fun t w=>∃(k4:Nat)(x6:Int)(t4:Fr),k4≤k3∧cE.j1 (cE.l1 k4) k4 a1 l1 l3 l4 x4 x6=some r∧t=aU t4 [(0,.func (.yield b6) #[] #[]),(2,pt b2),(5,v4),(6,v3),(8,ii x4),(9,iu x6),(30,ii a1.1),(31,ii x4),Zc]∧St (Rs.ah F_).fp w0 w [.ah F_,.blk b1 #[ii a1.1,ii a1.2.1,ii a1.2.2] 24,.blk b2 #[pt F_.p] 111,.blk b3 #[ii a1.1] 3,.blk b4 #[(.slice p1 n1 c1)] 22,.bO v1,.blk b5 #[v5] 28,.obj b6 (.loop o1),Y9 v4 l3,Y9 v3 l1,Zh v5 l4]) ?_ ?_
  ·refine A_ ?_
   refine bx (fun kk t w=>∃(x7 x8:Int)(t5:Fr),kk≤k3∧cE.l2 kk a1 l1 l3 l4 x4 x7 x8=some r∧t=aU t5 [(0,.func (.yield b6) #[] #[]),(2,pt b2),(5,v4),(6,v3),(8,ii x4),(9,iu x7),(30,ii a1.1),(31,ii x4),(34,v4),(35,ii (l3.length:Int)),(36,ii x8),Zc]∧St (Rs.ah F_).fp w0 w [.ah F_,.blk b1 #[ii a1.1,ii a1.2.1,ii a1.2.2] 24,.blk b2 #[pt F_.p] 111,.blk b3 #[ii a1.1] 3,.blk b4 #[(.slice p1 n1 c1)] 22,.bO v1,.blk b5 #[v5] 28,.obj b6 (.loop o1),Y9 v4 l3,Y9 v3 l1,Zh v5 l4]) k3 Ze ?_
   rintro kk t w ⟨x7,x8,t5,hk4,E,rfl,H⟩
   obtain⟨k5,rfl⟩:=Zd kk
   rw[cE.l2]at E
   refine A_ ?_
   refine aE E z ?_ ?_<;>intro c4 E<;>refine A_ ?_
   ·obtain⟨⟨g6,g7⟩,E⟩:=ar E
    refine A_ ?_
    exact⟨k5,bL _,_,_,_,bK hk4,E,Za,H⟩
   exact⟨k5,_,_,a_,E,Za,H⟩
  rintro t w ⟨k4,x6,t4,hk5,E,rfl,H⟩
  unfold cE.j1 at E
  refine cA (fun t w=>∃(k6:Nat)(l5:List Int)(v6:Value)(t6:Fr),k6≤k4∧cE.j2 (cE.l1 k6) k6 a1 l1 l3 x4 l5=some r∧t=aU t6 [(0,.func (.yield b6) #[] #[]),(2,pt b2),(5,v4),(6,v3),(30,ii a1.1),(31,ii x4),Zc]∧St (Rs.ah F_).fp w0 w [.ah F_,.blk b1 #[ii a1.1,ii a1.2.1,ii a1.2.2] 24,.blk b2 #[pt F_.p] 111,.blk b3 #[ii a1.1] 3,.blk b4 #[(.slice p1 n1 c1)] 22,.bO v1,.blk b5 #[v6] 28,.obj b6 (.loop o1),Y9 v4 l3,Y9 v3 l1,Zh v6 l5]) ?_ ?_
  ·refine A_ ?_
   rcases bR (decide (x6=0))with c5|c5
   ·have E:=iT c5 E
    refine A_ ?_
    refine dP z c5 z (jf [ii x4] z z H 7 z hO1 z z (A_ ?_))
    refine yB H 7 z hO1 (fun w H=>A_ ?_)
    refine ye (cL (e:=(.int .i64)) (l:=[x4]) gl H z f_ ⟨z,z,acu⟩ f_ (fun v7 w H=>?_))
    obtain⟨g8,E⟩:=ar E
    refine ye (dZ gl H 10 z (ao (H.Gt 11 z)) z z a_ u_ (fun v8 w H=>?_))
    obtain⟨p2,n2,c6,rfl⟩:=bX (H.Gt 10 z)
    refine s_ (cQ vy H 6 z z z z z (fun w H=>aK (aR (yN H 7 z hO1 (fun w H=>A_ ?_)))))
    exact⟨k4,_,_,_,aI _,E,Za,H.Y8 [0,1,2,3,4,5,6,7,8,9,10]⟩
   have E:=iF c5 E
   refine A_ ?_
   exact⟨k4,_,_,_,aI _,E,Za,H⟩
  rintro t w ⟨k6,l5,v6,t6,hk6,E,rfl,H⟩
  unfold cE.j2 at E
  refine A_ ?_
  refine ye (YN vp H 0 E z (fun _=>jJ.calls (H.Gt 0 z) (H.cb 8 0 z z z (ao (H.Gt 8 z))) (H.cb 9 0 z z z (ao (H.Gt 9 z)))) (fun x9 E v9 w H=>A_ ?_))
  exact⟨k6,a_,_,_,_,_,_,_,a_,E,Za,H.Y8 [0,1,2,3,4,5,6,7,11,9,10]⟩
 refine A_ ?_
 refine⟨.inr z,.tuple #[],tk0 z ⟨ba z ai z,ji H 7 z hO1 (fun w H=>aR (ab (rg (vr (av eU z (ak (H.Gt 6 z) z)) (va v5 (nl (aj (⟨.inl z,v5,gT H 5 z z (fun w H=>⟨ba z (ad ai) z,va v5 (nl (aj (⟨.inl z,v5,tk0 z ⟨ba z (ad ai) z,va v5 (nl (aj ?_))⟩⟩)))⟩)⟩))))))))⟩⟩
 cases E
 exact⟨.inl z,_,tk0 z ⟨aB z (ad ai),_,z,H.bN 0 10 z z z⟩⟩
def fY.l0:Nat→List Int→List (Int)→Int→Option (List Int)
 |0,_,_,_=>none
 |k+1,x8,l1,x1=>bif decide (x1<(x8.length:Int))then(bif decide (Int.tmod x1 2=1)then(an (decide ((0:Int)≤x1∧x1<(l1.length:Int))) (fY.l0 k x8 (l1.set x1.toNat 0) (I W (x1+1))))else(fY.l0 k x8 l1 (I W (x1+1))))else((cX.f k l1).bind fun x2=>some x2)
def fY.f(k:Nat)(a0:List Int):Option (List Int):=bif decide ((a0.length:Int)=0)then(some ([]:List Int))else(an (decide ((0:Int)≤1∧1≤(a0.length:Int))) ((dM.f ((a0.take a0.length).drop ((1:Int).toNat))).bind fun x8=>fY.l0 k x8 x8 0))
theorem fY.calls{a0:List Int}{r:List Int}(h0:Zf no w0 v0_ a0)(E:fY.f k a0=some r):
 Calls aa 272 #[v0_] w0 fun e w'=>∃(u0:Value),e= .returned (u0)∧St no w0 w' [Y9 u0 r]:=by
 have H:=St.nil no w0
 unfold fY.f at E
 refine Zb func272 ?_
 refine A_ ?_
 refine aE E z ?_ ?_<;>intro c2 E<;>refine A_ ?_
 ·have H:=H.bB (.int .u8) 5
  cases E
  exact(aL ⟨.inl z,_,tk0 z ⟨aB z (ad ai),_,z,H.bA 0 z⟩⟩)
 obtain⟨⟨g3,g4⟩,E⟩:=ar E
 have p6:(1:Int).toNat≤a0.length:=a_
 have p7:a0.length≤a0.length:=a_
 refine vr (iW aN (H.rd h0) z z g3 g4) ?_
 refine ye (YM nD H E (fun _=>dM.calls (H.arg (Rd.bz (H.rd h0) p6 p7))) (fun x8 E v1 w H=>A_ ?_))
 refine bx (fun kk t w=>∃(l1:List Int)(x1:Int)(t1:Fr),kk≤k∧fY.l0 kk x8 l1 x1=some r∧t=aU t1 [(2,sn),(3,v1),(12,ii (x8.length:Int)),(13,ii x1),Zc]∧St no w0 w [Y9 v1 l1]) k Ze ?_
 rintro kk t w ⟨l1,x1,t1,hk1,E,rfl,H⟩
 obtain⟨k23,rfl⟩:=Zd kk
 rw[fY.l0]at E
 refine A_ ?_
 refine aE E z ?_ ?_<;>intro c1 E<;>refine A_ ?_
 ·refine aE E z ?_ ?_<;>intro c3 E<;>refine A_ ?_
  ·obtain⟨⟨g1,g2⟩,E⟩:=ar E
   refine A_ ?_
   refine s_ (dc dB H 0 z g1 g2 z z (fun w H=>A_ ?_))
   exact⟨k23,bL _,_,_,_,bK hk1,E,Za,H⟩
  exact⟨k23,bL _,_,_,_,bK hk1,E,Za,H⟩
 refine ye (YM eS H E (fun _=>cX.calls (H.own 0 z (ao (H.Gt 0 z)))) (fun x2 E v2 w H=>A_ ?_))
 cases E
 exact⟨.inl z,_,tk0 z ⟨aB z (ad ai),_,z,H.bA 1 z⟩⟩
def eu.j0(l1r:(Int×Int×Int)→List (Int)→List Int→List Int→List (Int)→Int→Option (List Int×Bool))(k:Nat)(a1:Int×Int×Int)(a2 a3:List Int)(l1:List Int):Option (List Int×Bool):=(eR.f k a2 l1).bind fun x1=>(fY.f k a3).bind fun x2=>(eR.f k x2 l1).bind fun x3=>l1r a1 l1 x1 x3 ([]:List Int) 0
def eu.j1(l2r:(Int×Int×Int)→List (Int)→List (Int)→Int→Option (List Int×Bool))(k:Nat)(a1:Int×Int×Int)(l1 l2:List Int)(x1:Bool):Option (List Int×Bool):=bif !x1 then(some (([]:List Int),false))else(l2r a1 l1 l2 0)
mutual
def eu.l0:Nat→(Int×Int×Int)→List Int→List Int→List Int→List (Int)→Int→Option (List Int×Bool)
 |0,_,_,_,_,_,_=>none
 |k+1,a1,a2,a3,a4,l1,x1=>bif decide (x1<(a4.length:Int))then(an (decide ((0:Int)≤x1∧x1<(a4.length:Int))) ((kj.f (at_ 0 a4 x1)).bind fun x2=>(jK.f x2 (-1)).bind fun x3=>an (decide ((0:Int)≤x1∧x1<(l1.length:Int))) (eu.l0 k a1 a2 a3 a4 (l1.set x1.toNat x3) (I W (x1+1)))))else(eu.j0 (eu.l1 k) k a1 a2 a3 l1)
def eu.l1:Nat→(Int×Int×Int)→List (Int)→List Int→List Int→List (Int)→Int→Option (List Int×Bool)
 |0,_,_,_,_,_,_=>none
 |k+1,a1,l2,x4,x5,l3,x6=>bif decide (x6<min2 (x4.length:Int) (x5.length:Int))then(an (decide ((0:Int)≤x6∧x6<(x4.length:Int))) (an (decide ((0:Int)≤x6∧x6<(x5.length:Int))) ((nJ.f (at_ 0 x4 x6) (at_ 0 x5 x6)).bind fun x7=>bif !x7.2 then(eu.j1 (eu.l2 k) k a1 l2 ([]:List Int) false)else(an (decide ((l3.length+([x7.1]).length)*1≤140737488355328)) (eu.l1 k a1 l2 x4 x5 (l3++([x7.1])) (I W (x6+1)))))))else(eu.j1 (eu.l2 k) k a1 l2 l3 true)
def eu.l2:Nat→(Int×Int×Int)→List (Int)→List (Int)→Int→Option (List Int×Bool)
 |0,_,_,_,_=>none
 |k+1,a1,l2,l4,x8=>bif decide (x8<(l2.length:Int))then(an (decide ((0:Int)≤x8∧x8<(l2.length:Int))) (an (decide ((0:Int)≤x8∧x8<(l4.length:Int))) ((jK.f (at_ 0 l2 x8) (I W (a1.2.2-1))).bind fun x9=>(gp.f (at_ 0 l4 x8) x9).bind fun x10=>an (decide ((0:Int)≤x8∧x8<(l4.length:Int))) (eu.l2 k a1 l2 (l4.set x8.toNat x10) (I W (x8+1))))))else(some (l4,true))
end
def eu.f(k:Nat)(a1:Int×Int×Int)(a2 a3 a4:List Int):Option (List Int×Bool):=(dh.f (a1.1,a1.2.1,a1.2.2)).bind fun x5=>bif !decide (x5=0)then(some (([]:List Int),false))else(an (decide ((0:Int)≤(a4.length:Int)∧(a4.length:Int)≤(a4.length:Int)∧(a4.length:Int)≤140737488355328)) (eu.l0 k a1 a2 a3 a4 (List.replicate (a4.length:Int).toNat (0:Int)) 0))
theorem eu.calls{a1:Int×Int×Int}{a2 a3 a4:List Int}{r:List Int×Bool}(hf:(Rs.ah F_).inv w0)(h2:Zg F_ w0 v2_ a2)(h3:Zg F_ w0 v3_ a3)(h4:Rd (.of (.int .i64)) w0 (Ol (Rs.ah F_).fp w0) v4_ a4)(E:eu.f k a1 a2 a3 a4=some r):
 Calls aa 266 #[pt F_.p,.agg #[ii a1.1,ii a1.2.1,ii a1.2.2],v2_,v3_,v4_] w0 fun e w'=>∃(u0:Value),e= .returned (.tuple #[u0,.bool r.2])∧St (Rs.ah F_).fp w0 w' [.ah F_,Y9 u0 r.1]:=by
 have H:=St.start hf
 unfold eu.f at E
 refine Zb func266 ?_
 refine rg (ye (bc (cs:=#[ii a1.1,ii a1.2.1,ii a1.2.2]) H z (fun b1 w H=>A_ ?_)))
 refine oo z z (bp (l:=[ii a1.1,ii a1.2.1,ii a1.2.2]) cv (H.Gt 1 z) z z z) ?_
 refine dP z z z (E9 jF H E (fun _=>dh.calls) (fun x5 E w H=>A_ ?_))
 refine aE E z ?_ ?_<;>intro c7 E<;>refine A_ ?_
 ·have H:=H.bB (.int .u8) 5
  cases E
  exact(aL ⟨.inl z,_,tk0 z ⟨aB z (ad (ad ai)),_,z,H.bN 0 2 z z z⟩⟩)
 obtain⟨⟨g9,g1,g2⟩,E⟩:=ar E
 refine ye (ee (e:=(.int .u8)) (z0:=0) aN z H z z g9 g1 a_ a_ (fun v8 w H=>J_ ?_))
 refine cA (fun t w=>∃(k1:Nat)(l1:List Int)(t1:Fr),k1≤k∧eu.j0 (eu.l1 k1) k1 a1 a2 a3 l1=some r∧t=aU t1 [(0,pt F_.p),(2,v2_),(3,v3_),(6,pt b1),(10,sn),(11,.bool false),(12,v8),Zc]∧St (Rs.ah F_).fp w0 w [.ah F_,.blk b1 #[ii a1.1,ii a1.2.1,ii a1.2.2] 24,Y9 v8 l1]) ?_ ?_
 ·refine A_ ?_
  refine bx (fun kk t w=>∃(l2:List Int)(x1:Int)(t2:Fr),kk≤k∧eu.l0 kk a1 a2 a3 a4 l2 x1=some r∧t=aU t2 [(0,pt F_.p),(2,v2_),(3,v3_),(6,pt b1),(10,sn),(11,.bool false),(12,v8),(31,v4_),(32,ii (a4.length:Int)),(33,ii x1),Zc]∧St (Rs.ah F_).fp w0 w [.ah F_,.blk b1 #[ii a1.1,ii a1.2.1,ii a1.2.2] 24,Y9 v8 l2]) k Ze ?_
  rintro kk t w ⟨l2,x1,t2,hk1,E,rfl,H⟩
  obtain⟨k2,rfl⟩:=Zd kk
  rw[eu.l0]at E
  refine A_ ?_
  refine aE E z ?_ ?_<;>intro c1 E<;>refine A_ ?_
  ·obtain⟨⟨g3,g4⟩,E⟩:=ar E
   refine A_ ?_
   refine ye (YL vh H 0 E z (fun _=>kj.calls (H.Gt 0 z)) (fun x2 E w H=>?_))
   refine ye (YL vn H 0 E z (fun _=>jK.calls (H.Gt 0 z)) (fun x3 E w H=>?_))
   obtain⟨⟨g5,g6⟩,E⟩:=ar E
   refine A_ ?_
   refine s_ (dc dB H 2 z g5 g6 z z (fun w H=>A_ ?_))
   exact⟨k2,bL _,_,_,_,bK hk1,E,Za,H⟩
  exact⟨k2,_,_,a_,E,Za,H⟩
 rintro t w ⟨k1,l1,t1,hk2,E,rfl,H⟩
 unfold eu.j0 at E
 refine A_ ?_
 refine ye (YN qU H 0 E z (fun _=>eR.calls (H.Gt 0 z) (H.cj 0 z (H.rd h2)) (H.cb 2 0 z z z (ao (H.Gt 2 z)))) (fun x4 E v1 w H=>A_ ?_))
 refine ye (YM zv H E (fun _=>fY.calls (H.arg (H.rd h3))) (fun x6 E v2 w H=>A_ ?_))
 refine ye (YN qU H 0 E z (fun _=>eR.calls (H.Gt 0 z) (H.cb 4 0 z z z (ao (H.Gt 4 z))) (H.cb 2 0 z z z (ao (H.Gt 2 z)))) (fun x7 E v3 w H=>A_ ?_))
 refine vr (gw [pt F_.p] [] z z) ?_
 refine ye (fZ (fun v w=>∃(k3:Nat)(l3:List Int)(x8:Bool)(v4:Value),k3≤k1∧eu.j1 (eu.l2 k3) k3 a1 l1 l3 x8=some r∧v= .tuple #[v4,.bool x8]∧St (Rs.ah F_).fp w0 w [.ah F_,.blk b1 #[ii a1.1,ii a1.2.1,ii a1.2.2] 24,Y9 v8 l1,Y9 v1 x4,Y9 v2 x6,Y9 v3 x7,Y9 v4 l3]) ?_ ?_)
 ·refine cm 41 [v1,v3,.func (.func 223) #[pt F_.p] #[]] HB func310 z z z z (A_ ?_)
  have H:=H.bB (.int .u8) 5
  refine bx (fun kk t w=>∃(l4:List Int)(x9:Int)(v5:Value)(t3:Fr),kk≤k1∧eu.l1 kk a1 l1 x4 x7 l4 x9=some r∧t=aU t3 [(0,v1),(1,v3),(2,.func (.func 223) #[pt F_.p] #[]),(6,sn),(7,.bool false),(8,v5),(16,ii (min2 (x4.length:Int) (x7.length:Int))),(17,ii x9),Zc]∧St (Rs.ah F_).fp w0 w [.ah F_,.blk b1 #[ii a1.1,ii a1.2.1,ii a1.2.2] 24,Y9 v8 l1,Y9 v1 x4,Y9 v2 x6,Y9 v3 x7,Y9 v5 l4]) k1 Ze ?_
  rintro kk t w ⟨l4,x9,v5,t3,hk3,E,rfl,H⟩
  obtain⟨k4,rfl⟩:=Zd kk
  rw[eu.l1]at E
  refine A_ ?_
  refine aE E z ?_ ?_<;>intro c2 E<;>refine A_ ?_
  ·refine cd (ds:=[]) bZ H z z ?_
   have H:=H.drew
   refine B_ [0,1,2] H ?_
   obtain⟨⟨g7,g8⟩,E⟩:=ar E
   refine B_ [3,4,5,6] H ?_
   obtain⟨⟨g12,g13⟩,E⟩:=ar E
   refine B_ [7,8] H ?_
   obtain⟨x10,E7,E⟩:=ay E
   refine wo 9 z (qv z Hd z ((nJ.calls (H.Gt 0 z) E7).mono ?_))
   rintro _ w ⟨rfl,K⟩
   have H:=H.aV 0 z K
   refine⟨_,z,⟨fun _=>H.Y8 [0,1,2,3,4,5,6],B_ [10,11,12,13,14] (H.Y8 [0,1,2,3,4,5,6]) ?_⟩⟩
   refine aE E z ?_ ?_<;>intro c3 E<;>refine A_ ?_
   ·have H:=H.bB (.int .u8) 5
    exact(aL (bG (aL (aL (bG (aL ⟨.inl z,.tuple #[sn,.bool false],tk0 z ⟨ba z (ad (ad ai)) z,k4,_,_,_,a_,E,z,H.Y8 [0,1,2,3,4,5,7]⟩⟩))))))
   refine ye (cL (e:=(.int .u8)) (l:=[x10.1]) aN H z f_ ⟨z,z,acu⟩ f_ (fun v6 w H=>?_))
   obtain⟨g14,E⟩:=ar E
   refine ye (dZ aN H 6 z (ao (H.Gt 7 z)) z z a_ u_ (fun v7 w H=>A_ ?_))
   exact⟨k4,bL _,_,_,_,_,bK hk3,E,Za,H.Y8 [0,1,2,3,4,5,6]⟩
  exact⟨.inl z,.tuple #[v5,.bool true],tk0 z ⟨ba z (ad (ad ai)) z,k4,_,_,_,a_,E,z,H⟩⟩
 rintro _ w ⟨k3,l3,x8,v4,hk4,E,hv_,H⟩
 have hv_:=hv_.symm
 subst hv_
 unfold eu.j1 at E
 refine A_ ?_
 refine aE E z ?_ ?_<;>intro c4 E<;>refine A_ ?_
 ·have H:=H.bB (.int .u8) 5
  cases E
  exact(aL ⟨.inl z,_,tk0 z ⟨aB z (ad (ad ai)),_,z,H.bN 0 7 z z z⟩⟩)
 refine bx (fun kk t w=>∃(l5:List Int)(x11:Int)(t4:Fr),kk≤k3∧eu.l2 kk a1 l1 l5 x11=some r∧t=aU t4 [(0,pt F_.p),(6,pt b1),(10,sn),(11,.bool false),(17,v4),(66,v8),(67,ii (l1.length:Int)),(68,ii x11),Zc]∧St (Rs.ah F_).fp w0 w [.ah F_,.blk b1 #[ii a1.1,ii a1.2.1,ii a1.2.2] 24,Y9 v8 l1,Y9 v1 x4,Y9 v2 x6,Y9 v3 x7,Y9 v4 l5]) k3 Ze ?_
 rintro kk t w ⟨l5,x11,t4,hk5,E,rfl,H⟩
 obtain⟨k5,rfl⟩:=Zd kk
 rw[eu.l2]at E
 refine A_ ?_
 refine aE E z ?_ ?_<;>intro c5 E<;>refine A_ ?_
 ·obtain⟨⟨g15,g16⟩,E⟩:=ar E
  refine A_ ?_
  refine cd (ds:=[15]) bZ H z z ?_
  have H:=H.drew
  refine B_ [0,1,2,3,4] H ?_
  obtain⟨⟨g17,g18⟩,E⟩:=ar E
  refine B_ [5,6,7,8,9,10,11] H ?_
  refine wo 12 z (YL vn H 0 E z (fun _=>jK.calls (H.Gt 0 z)) (fun x12 E w H=>⟨fun _=>H.Y8 [0,1,2,3,4,5,6],?_⟩))
  refine wo 13 z (YL pg H 0 E z (fun _=>gp.calls (H.Gt 0 z)) (fun x13 E w H=>⟨fun _=>H.Y8 [0,1,2,3,4,5,6],?_⟩))
  obtain⟨⟨g19,g20⟩,E⟩:=ar E
  refine B_ [14] (H.Y8 [0,1,2,3,4,5,6]) ?_
  refine wo 15 z (dc dB H 6 z g19 g20 z z (fun w H=>⟨fun h=>(h f_).elim,wd (A_ ?_)⟩))
  exact⟨k5,bL _,_,_,_,bK hk5,E,Za,H⟩
 cases E
 exact⟨.inl z,_,tk0 z ⟨aB z (ad (ad ai)),_,z,H.bN 0 6 z z z⟩⟩
def fD.j0(l0r:List Int→List Int→List (Int)→Int→Option (List Int))(k:Nat)(a1 a2:List Int)(l1:List Int)(x1:Int)(x2:Bool):Option (List Int):=bif x2 then(an (decide ((0:Int)≤at_ 0 a1 x1∧at_ 0 a1 x1<(l1.length:Int))) (an (decide ((0:Int)≤x1∧x1<(a2.length:Int))) (an (decide ((0:Int)≤at_ 0 a1 x1∧at_ 0 a1 x1<(l1.length:Int))) (l0r a1 a2 (l1.set (at_ 0 a1 x1).toNat (bits .xor .u8 (at_ 0 l1 (at_ 0 a1 x1)) (at_ 0 a2 x1))) (I W (x1+1))))))else(l0r a1 a2 l1 (I W (x1+1)))
def fD.l0:Nat→List Int→List Int→List (Int)→Int→Option (List Int)
 |0,_,_,_,_=>none
 |k+1,a1,a2,l1,x1=>bif decide (x1<min2 (a1.length:Int) (a2.length:Int))then(an (decide ((0:Int)≤x1∧x1<(a1.length:Int))) (bif decide (0≤at_ 0 a1 x1)then(fD.j0 (fD.l0 k) k a1 a2 l1 x1 (decide (at_ 0 a1 x1<(l1.length:Int))))else(fD.j0 (fD.l0 k) k a1 a2 l1 x1 false)))else(some l1)
def fD.f(k:Nat)(a0 a1 a2:List Int):Option (List Int):=(dM.f a0).bind fun x1=>fD.l0 k a1 a2 x1 0
theorem fD.calls{a0 a1 a2:List Int}{r:List Int}(h0:Rd (.of (.int .u8)) w0 (Ol no w0) v0_ a0)(h1:Rd (.of (.int .i64)) w0 (Ol no w0) v1_ a1)(h2:Rd (.of (.int .u8)) w0 (Ol no w0) v2_ a2)(E:fD.f k a0 a1 a2=some r):
 Calls aa 267 #[v0_,v1_,v2_] w0 fun e w'=>∃(u0:Value),e= .returned (u0)∧St no w0 w' [.own (.int .u8) 5 u0 r]:=by
 have H:=St.nil no w0
 unfold fD.f at E
 refine aP (N:=44) (args:=[v0_,v1_,v2_]) Tryz.func267 z z j_ ?_
 refine rg (va sn (nl (rg (vm v0_ ?_))))
 refine ye (YM nD H E (fun _ h=>dM.calls (H.arg (H.rd h0)) h) (fun x1 E v3 w H=>va v3 (nl (ae (rg (vm v1_ (vr (aY gK (H.rd h1) z) (vm v2_ (vr (aY bI (H.rd h2) z) (vr (kA z z) (vm (ii 0) (nl (aG ?_)))))))))))))
 refine bx (fun kk t w=>∃(l1:List Int)(x2:Int)(t1:Fr),kk≤k∧fD.l0 kk a1 a2 l1 x2=some r∧t=aU t1 [(1,v1_),(2,v2_),(6,sn),(7,v3),(16,ii (min2 (a1.length:Int) (a2.length:Int))),(17,ii x2),(1000000,undef)]∧St no w0 w [.own (.int .u8) 5 v3 l1]) k ?_ ?_
 ·exact⟨_,_,_,aI _,E,aD ⟨z,z,z,z,z,z,z,acu⟩,H⟩
 rintro kk t w ⟨l1,x2,t1,hk1,E,rfl,H⟩
 obtain⟨k1,rfl⟩|rfl:=ks kk
 rotate_left
 ·cases E
 rw[fD.l0]at E
 refine rg (vr (aZ z z) (nl (ae ?_)))
 refine aE E z (fun c1 E=>?_) (fun c1 E=>?_)
 ·refine aA (ab (ae (aG (rg (vm (ii x2) (va (ii x2) (nl (rg (vm v1_ (vm (ii x2) ?_))))))))))
  obtain⟨⟨g1,g2⟩,E⟩:=ar E
  refine vr (bo gl (H.rd h1) z z g1 g2) (vr (bq bf (H.rd h1) g1 g2 z) (va (ii (at_ 0 a1 x2)) (nl ?_)))
  refine cA (fun t w=>∃(k2:Nat)(x3:Bool)(t2:Fr),k2≤k1∧fD.j0 (fD.l0 k2) k2 a1 a2 l1 x2 x3=some r∧t=aU t2 [(1,v1_),(2,v2_),(6,sn),(7,v3),(8,ii x2),(9,ii (at_ 0 a1 x2)),(16,ii (min2 (a1.length:Int) (a2.length:Int))),(17,ii x2),(31,.bool x3),(1000000,undef)]∧St no w0 w [.own (.int .u8) 5 v3 l1]) ?_ ?_
  ·refine aH (vm (ii (at_ 0 a1 x2)) (vr (dq z z) (vm (.bool (decide (0≤at_ 0 a1 x2))) ?_)))
   rcases bR (decide (0≤at_ 0 a1 x2))with c2|c2
   ·have E:=iT c2 E
    refine oo c2 z (mv (ii (at_ 0 a1 x2)) z) (oo c2 z (mv v3 z) (oo c2 z (aY bI (ao (H.Gt 0 z)) z) (oo c2 z (aZ z z) (vr (pT (.bool (decide (at_ 0 a1 x2<(l1.length:Int)))) z z c2) (aK ?_)))))
    exact⟨k1,_,_,aI _,E,aD ⟨z,z,z,z,z,z,z,z,z,z,acu⟩,H⟩
   have E:=iF c2 E
   refine ow c2 z (ow c2 z (ow c2 z (ow c2 z (vr (pF (.bool false) z z c2) (aK ?_)))))
   exact⟨k1,_,_,aI _,E,aD ⟨z,z,z,z,z,z,z,z,z,z,acu⟩,H⟩
  rintro t w ⟨k2,x3,t2,hk2,E,rfl,H⟩
  unfold fD.j0 at E
  refine aE E z (fun c3 E=>?_) (fun c3 E=>?_)
  ·refine cd (ds:=[10]) bZ H z z ?_
   have H:=H.drew
   refine wm 0 z H v3 (wm 1 z H (ii (at_ 0 a1 x2)) ?_)
   obtain⟨⟨g3,g4⟩,E⟩:=ar E
   refine wz 2 z H (fun w H=>bo aN (ao (H.Gt 0 z)) z z g3 g4) (wz 3 z H (fun w H=>bq bC (ao (H.Gt 0 z)) g3 g4 z) (wm 4 z H v2_ (wm 5 z H (ii x2) ?_)))
   obtain⟨⟨g5,g6⟩,E⟩:=ar E
   refine wz 6 z H (fun w H=>bo aN (H.rd h2) z z g5 g6) (wz 7 z H (fun w H=>bq bC (H.rd h2) g5 g6 z) (wg 8 z H (ij z z) ?_))
   obtain⟨⟨g7,g8⟩,E⟩:=ar E
   refine wz 9 z H (fun w H=>bo aN (ao (H.Gt 0 z)) z z g7 g8) (wo 10 z (dc dB H 0 z g7 g8 z z (fun w H=>⟨fun h=>(h f_).elim,wd (aR (ab (aH (vr (aO z z) (vm (ii (I W (x2+1))) (aK ?_))))))⟩)))
   exact⟨k2,a_,_,_,_,a_,E,aD ⟨z,z,z,z,z,z,z,acu⟩,H⟩
  refine aA (aR (ab (aH (vr (aO z z) (vm (ii (I W (x2+1))) (aK ?_))))))
  exact⟨k2,a_,_,_,_,a_,E,aD ⟨z,z,z,z,z,z,z,acu⟩,H⟩
 refine bt (aM (aM (bu (ab (rg (vm v3 (va v3 (nl (aj ?_)))))))))
 cases E
 exact⟨.inl z,_,tk0 z ⟨aB z (ad ai),_,z,H.bA 0 z⟩⟩
def kH.f(k:Nat)(a0:(Int×Int×Int)×List Int×List Int)(a1 a2:List Int):Option (List Int×Bool):=(cE.f k (a0.1.1,a0.1.2.1,a0.1.2.2) a2).bind fun x2=>(eu.f k (a0.1.1,a0.1.2.1,a0.1.2.2) a1 a2 x2).bind fun x5=>bif !x5.2 then(some (([]:List Int),false))else((fD.f k a0.2.1 x2 x5.1).bind fun x1=>(lr.f k (a0.1.1,a0.1.2.1,a0.1.2.2) a0.2.1 a0.2.2 x1).bind fun x3=>bif !x3 then(some (([]:List Int),false))else(some (x1,true)))
theorem kH.calls{a0:(Int×Int×Int)×List Int×List Int}{a1 a2:List Int}{r:List Int×Bool}(hf:(Rs.ah F_).inv w0)(h0_4:Zg F_ w0 v0_4_ a0.2.1)(h0_5:Rd (.of (.int .i64)) w0 (Ol (Rs.ah F_).fp w0) v0_5_ a0.2.2)(h1:Zg F_ w0 v1_ a1)(h2:Zg F_ w0 v2_ a2)(E:kH.f k a0 a1 a2=some r):
 Calls aa 218 #[.agg #[pt F_.p,ii a0.1.1,ii a0.1.2.1,ii a0.1.2.2,v0_4_,v0_5_],v1_,v2_] w0 fun e w'=>∃(u0:Value),e= .returned (.tuple #[u0,.bool r.2])∧St (Rs.ah F_).fp w0 w' [.ah F_,Y9 u0 r.1]:=by
 have H:=St.start hf
 unfold kH.f at E
 refine Zb func218 ?_
 refine rg (ye (bc (cs:=#[pt F_.p,ii a0.1.1,ii a0.1.2.1,ii a0.1.2.2,v0_4_,v0_5_]) H z (fun b1 w H=>A_ ?_)))
 refine vr (bp (l:=[ii a0.1.1,ii a0.1.2.1,ii a0.1.2.2]) cv (H.Gt 1 z) z z z) (A_ ?_)
 refine ye (YN Ho H 0 E z (fun _=>cE.calls (H.Gt 0 z) (H.cj 0 z (H.rd h2))) (fun x2 E v4 w H=>A_ ?_))
 refine vr (bp (l:=[ii a0.1.1,ii a0.1.2.1,ii a0.1.2.2]) cv (H.Gt 1 z) z z z) (A_ ?_)
 refine ye (YN Hp H 0 E z (fun _=>eu.calls (H.Gt 0 z) (H.cj 0 z (H.rd h1)) (H.cj 0 z (H.rd h2)) (H.cb 2 0 z z z (ao (H.Gt 2 z)))) (fun x5 E v7 w H=>A_ ?_))
 refine aE E z ?_ ?_<;>intro c9 E
 ·refine A_ ?_
  have H:=H.bB (.int .u8) 5
  cases E
  exact(aL ⟨.inl z,_,tk0 z ⟨aB z (ad (ad ai)),_,z,H.bN 0 4 z z z⟩⟩)
 refine aA (ab (ae (cd (ds:=[]) bZ H z z ?_)))
 have H:=H.drew
 refine wz 0 z H (fun w H=>bp (l:=[pt F_.p,ii a0.1.1,ii a0.1.2.1,ii a0.1.2.2,v0_4_,v0_5_]) jC (H.Gt 1 z) z z z) (B_ [1,2,3,4] H ?_)
 refine wo 5 z (YM Hq H E (fun _=>fD.calls (H.arg (H.rd h0_4)) (H.own 2 z (ao (H.Gt 2 z))) (H.own 3 z (ao (H.Gt 3 z)))) (fun x1 E v1 w H=>⟨fun _=>H.Y8 [0,1,2,3],wo 6 z (cm 18 [.agg #[pt F_.p,ii a0.1.1,ii a0.1.2.1,ii a0.1.2.2,v0_4_,v0_5_],v1] zq func225 z z z z (rg (ye (bc (cs:=#[pt F_.p,ii a0.1.1,ii a0.1.2.1,ii a0.1.2.2,v0_4_,v0_5_]) H z (fun b2 w H=>?_)))))⟩))
 have H:St _ _ _ [_,_,_,_,_,_]:=H
 refine A_ ?_
 refine vr (bp (l:=[ii a0.1.1,ii a0.1.2.1,ii a0.1.2.2]) cv (H.Gt 5 z) z z z) (A_ ?_)
 refine ye (YL zw H 0 E z (fun _=>lr.calls (H.Gt 0 z) (H.cj 0 z (H.rd h0_4)) (H.cj 0 z (H.rd h0_5)) (H.cb 4 0 z z z (ao (H.Gt 4 z)))) (fun x3 E w H=>A_ ?_))
 refine aE E z ?_ ?_<;>intro c1 E
 ·refine rg (va sn (va (.bool false) (nl (aj (aL ⟨.inl z,.tuple #[sn,.bool false],tk0 z ⟨ba z (ad (ad ai)) z,(⟨fun _=>H.Y8 [0,1,2,3],wg 7 z (H.Y8 [0,1,2,3]) (aX z z) (wg 8 z (H.Y8 [0,1,2,3]) (aX z z) (wg 9 z (H.Y8 [0,1,2,3]) (sg sn z) (wg 10 z (H.Y8 [0,1,2,3]) (sg (.bool false) z) (wd (ab (aj ?_))))))⟩)⟩⟩)))))
  have H:=H.bB (.int .u8) 5
  cases E
  exact⟨.inl z,_,tk0 z ⟨aB z (ad (ad ai)),_,z,H.bN 0 6 z z z⟩⟩
 refine A_ ?_
 refine⟨.inl z,.tuple #[v1,.bool true],tk0 z ⟨ba z (ad (ad ai)) z,(⟨fun _=>H.Y8 [0,1,2,3],wg 7 z (H.Y8 [0,1,2,3]) (aX z z) (wg 8 z (H.Y8 [0,1,2,3]) (aX z z) (wy 9 z (H.Y8 [0,1,2,3]) (sg v1 z) (wg 10 z (H.Y8 [0,1,2,3]) (sg (.bool true) z) (wd (ab (aj ?_))))))⟩)⟩⟩
 cases E
 exact⟨.inl z,_,tk0 z ⟨aB z (ad (ad ai)),_,z,H.bN 0 4 z z z⟩⟩
def qf.f(k:Nat)(a0:List Int)(a1:Int):Option (List Int):=an (decide ((0:Int)≤max2 0 (min2 a1 (a0.length:Int))∧max2 0 (min2 a1 (a0.length:Int))≤(a0.length:Int))) ((cX.f k ((a0.take ((max2 0 (min2 a1 (a0.length:Int))).toNat)).drop 0)).bind fun x6=>some x6)
theorem qf.calls{a0:List Int}{a1:Int}{r:List Int}(h0:Zf no w0 v0_ a0)(E:qf.f k a0 a1=some r):
 Calls aa 268 #[v0_,ii a1] w0 fun e w'=>∃(u0:Value),e= .returned (u0)∧St no w0 w' [Y9 u0 r]:=by
 have H:=St.nil no w0
 unfold qf.f at E
 refine Zb func268 ?_
 refine A_ ?_
 obtain⟨⟨g1,g2⟩,E⟩:=ar E
 have p4:0≤(max2 0 (min2 a1 (a0.length:Int))).toNat:=a_
 have p5:(max2 0 (min2 a1 (a0.length:Int))).toNat≤a0.length:=a_
 refine vr (fU aN (H.rd h0) z z g1 g2) ?_
 refine ye (YM eS H E (fun _=>cX.calls (H.arg (Rd.bz (H.rd h0) p4 p5))) (fun x6 E v8 w H=>A_ ?_))
 cases E
 exact⟨.inl z,_,tk0 z ⟨aB z (ad ai),_,z,H.bA 0 z⟩⟩
def ny.f(k:Nat)(a1 a2:List Int):Option (List Int):=(cZ.f k a1 a2).bind fun x1=>(qf.f k x1 (a1.length:Int)).bind fun x4=>some x4
theorem ny.calls{a1 a2:List Int}{r:List Int}(hf:(Rs.ah F_).inv w0)(h1:Zg F_ w0 v1_ a1)(h2:Zg F_ w0 v2_ a2)(E:ny.f k a1 a2=some r):
 Calls aa 219 #[pt F_.p,v1_,v2_] w0 fun e w'=>∃(u0:Value),e= .returned (u0)∧St (Rs.ah F_).fp w0 w' [.ah F_,Y9 u0 r]:=by
 have H:=St.start hf
 unfold ny.f at E
 refine Zb func219 ?_
 refine A_ ?_
 refine ye (YN qV H 0 E z (fun _=>cZ.calls (H.Gt 0 z) (H.cj 0 z (H.rd h1)) (H.cj 0 z (H.rd h2))) (fun x1 E v3 w H=>A_ ?_))
 refine ye (YM Hr H E (fun _=>qf.calls (H.own 1 z (ao (H.Gt 1 z)))) (fun x4 E v6 w H=>A_ ?_))
 cases E
 exact⟨.inl z,_,tk0 z ⟨aB z (ad ai),_,z,H.bN 0 2 z z z⟩⟩
def oI.f(k:Nat)(a0:(Int×Int×Int)×List Int×List Int):Option (List Int×Bool):=(kG.f k ((a0.1.1,a0.1.2.1,a0.1.2.2),a0.2.1,a0.2.2)).bind fun x2=>an (decide ((0:Int)≤(a0.2.2.length:Int)∧(a0.2.2.length:Int)≤(x2.2.2.length:Int))) ((iR.f k ((x2.2.2.take x2.2.2.length).drop ((a0.2.2.length:Int).toNat))).bind fun x1=>(cZ.f k x1.1 x2.2.1).bind fun x3=>(ny.f k x2.1 x3).bind fun x4=>(kH.f k ((a0.1.1,a0.1.2.1,a0.1.2.2),a0.2.1,a0.2.2) x4 x3).bind fun x5=>some (x5.1,x5.2))
theorem oI.calls{a0:(Int×Int×Int)×List Int×List Int}{r:List Int×Bool}(hf:(Rs.ah F_).inv w0)(h0_4:Zg F_ w0 v0_4_ a0.2.1)(h0_5:Rd (.of (.int .i64)) w0 (Ol (Rs.ah F_).fp w0) v0_5_ a0.2.2)(E:oI.f k a0=some r):
 Calls aa 169 #[.agg #[pt F_.p,ii a0.1.1,ii a0.1.2.1,ii a0.1.2.2,v0_4_,v0_5_]] w0 fun e w'=>∃(u0:Value),e= .returned (.tuple #[u0,.bool r.2])∧St (Rs.ah F_).fp w0 w' [.ah F_,Y9 u0 r.1]:=by
 have H:=St.start hf
 unfold oI.f at E
 refine Zb func169 ?_
 refine rg (ye (bc (cs:=#[pt F_.p,ii a0.1.1,ii a0.1.2.1,ii a0.1.2.2,v0_4_,v0_5_]) H z (fun b1 w H=>A_ ?_)))
 refine vr (bp (l:=[pt F_.p,ii a0.1.1,ii a0.1.2.1,ii a0.1.2.2,v0_4_,v0_5_]) jC (H.Gt 1 z) z z z) ?_
 obtain⟨x2,E3,E⟩:=ay E
 refine ye (au zn z ((kG.calls (H.Gt 0 z) (H.cj 0 z (H.rd h0_4)) (H.cj 0 z (H.rd h0_5)) E3).mono ?_))
 rintro _ w ⟨v4,v5,v6,rfl,K⟩
 have H:=H.aV 0 z K
 refine⟨_,z,A_ ?_⟩
 refine cd (ds:=[]) bZ H z z ?_
 have H:=H.drew
 refine B_ [0,1,2,3,4,5,6,7] H ?_
 obtain⟨⟨g7,g8⟩,E⟩:=ar E
 have p1:(a0.2.2.length:Int).toNat≤x2.2.2.length:=a_
 have p2:x2.2.2.length≤x2.2.2.length:=a_
 refine wz 8 z H (fun w H=>iW aN (ao (H.Gt 4 z)) z z g7 g8) ?_
 refine wo 9 z (YN Ha H 0 E z (fun _=>iR.calls (H.Gt 0 z) (H.cb 4 0 z z z (Rd.bz (ao (H.Gt 4 z)) p1 p2))) (fun x1 E v1 w H=>⟨fun _=>H.Y8 [0,1,2,3,4],B_ [10,11,12,13,14] (H.Y8 [0,1,2,3,4]) ?_⟩))
 refine ye (YN qV H 0 E z (fun _=>cZ.calls (H.Gt 0 z) (H.cb 5 0 z z z (ao (H.Gt 5 z))) (H.cb 3 0 z z z (ao (H.Gt 3 z)))) (fun x3 E v2 w H=>A_ ?_))
 refine cd (ds:=[]) bZ H z z ?_
 have H:=H.drew
 refine wg 0 z H (az pq z) (wz 1 z H (fun w H=>bp (l:=[pt F_.p,ii a0.1.1,ii a0.1.2.1,ii a0.1.2.2,v0_4_,v0_5_]) jC (H.Gt 1 z) z z z) (B_ [2,3,4,5,6,8] H ?_))
 refine wo 7 z (YN Hb H 0 E z (fun _=>ny.calls (H.Gt 0 z) (H.cb 2 0 z z z (ao (H.Gt 2 z))) (H.cb 6 0 z z z (ao (H.Gt 6 z)))) (fun x4 E v3 w H=>⟨fun _=>H.Y8 [0,1,2,3,4,5,6],?_⟩))
 have H:St _ _ _ [_,_,_,_,_,_,_,_]:=H
 refine wo 9 z (YN zo H 0 E z (fun _=>kH.calls (H.Gt 0 z) (H.cj 0 z (H.rd h0_4)) (H.cj 0 z (H.rd h0_5)) (H.cb 7 0 z z z (ao (H.Gt 7 z))) (H.cb 6 0 z z z (ao (H.Gt 6 z)))) (fun x5 E v7 w H=>⟨fun _=>H.Y8 [0,1,2,3,4,5,6],B_ [10,11,12,13] (H.Y8 [0,1,2,3,4,5,6]) ?_⟩))
 cases E
 exact⟨.inl z,_,tk0 z ⟨aB z (ad (ad ai)),_,z,H.bN 0 8 z z z⟩⟩
end Go.Proofs.YtmhkpafkadijgaaGreatDoor.Gw
