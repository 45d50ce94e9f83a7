/- A part of the proof of Rows.PlayDecodesCardSaid; the conditions are that card's own. -/
import Derived.Test.YtmhkpafkadijgaaGreatDoorQ20
set_option linter.all false
set_option maxRecDepth 100000
set_option maxHeartbeats 4000000
namespace Go.Proofs.YtmhkpafkadijgaaGreatDoor.Gw
open Go.IntKind renaming wrap→I,i64→W
open Go Go.RowKit
variable[de]
open Go.IntKind (i8 i16 i32 i64 u8 u16 u32 u64)
open Tryz hiding prog
open Tryz renaming prog → aa
variable{w0:World}{k:Nat}{v0_ v1_ v2_ v3_ v4_:Value}
def jY.f(k:Nat)(a0:Int)(a2:Int×Int×Int)(a3 a4:List Int):Option (List Int×Bool):=bif decide (a0=1)then((jw.f k ((a2.1,a2.2.1,a2.2.2),a3,a4)).bind fun x1=>bif !x1 then(some (([]:List Int),false))else((oI.f k ((a2.1,a2.2.1,a2.2.2),a3,a4)).bind fun x2=>some (x2.1,x2.2)))else(bif decide (a0=2)then((jw.f k ((a2.1,a2.2.1,a2.2.2),a3,a4)).bind fun x3=>bif !x3 then(some (([]:List Int),false))else((oJ.f k ((a2.1,a2.2.1,a2.2.2),a3,a4)).bind fun x4=>some (x4.1,x4.2)))else(bif decide (a0=3)then((jw.f k ((a2.1,a2.2.1,a2.2.2),a3,a4)).bind fun x5=>bif !x5 then(some (([]:List Int),false))else((eY.f k ((a2.1,a2.2.1,a2.2.2),a3,a4)).bind fun x6=>some (x6.1,x6.2)))else(some (([]:List Int),false))))
theorem jY.calls{f1_:FD}{a0:Int}{a2:Int×Int×Int}{a3 a4:List Int}{r:List Int×Bool}(hf:(Rs.ah f1_).inv w0)(h3:Zg f1_ w0 v3_ a3)(h4:Rd (.of (.int .i64)) w0 (Ol (Rs.ah f1_).fp w0) v4_ a4)(E:jY.f k a0 a2 a3 a4=some r):
 Calls aa 108 #[ii a0,pt f1_.p,.agg #[ii a2.1,ii a2.2.1,ii a2.2.2],v3_,v4_] w0 fun e w'=>∃(u0:Value),e= .returned (.tuple #[u0,.bool r.2])∧St (Rs.ah f1_).fp w0 w' [.ah f1_,Y9 u0 r.1]:=by
 have H:=St.start hf
 unfold jY.f at E
 refine Zb func108 ?_
 refine rg (ye (bc (cs:=#[ii a2.1,ii a2.2.1,ii a2.2.2]) H z (fun b1 w H=>A_ ?_)))
 refine vr (bp (l:=[ii a2.1,ii a2.2.1,ii a2.2.2]) cv (H.Gt 1 z) z z z) (A_ ?_)
 obtain⟨p2,n3,c4,rfl⟩:=eO h3
 obtain⟨p5,n6,c7,rfl⟩:=eO h4
 refine vr (cf (cs:=[pt f1_.p,ii a2.1,ii a2.2.1,ii a2.2.2,(.slice p2 n3 c4),(.slice p5 n6 c7)]) GD d_) (ye (cr Il H (fun b8 w H=>s_ (cy Ii H 2 z z z z z z (fun w H=>nl (rg (ye (Ea H (fun b9 w H=>vr (bp (l:=[pt f1_.p,ii a2.1,ii a2.2.1,ii a2.2.2,(.slice p2 n3 c4),(.slice p5 n6 c7)]) jC (H.Gt 2 z) z z z) (vr (cf (cs:=[pt f1_.p,ii a2.1,ii a2.2.1,ii a2.2.2,(.slice p2 n3 c4),(.slice p5 n6 c7)]) GG d_) (vr (gw [.agg #[pt f1_.p,ii a2.1,ii a2.2.1,ii a2.2.2,(.slice p2 n3 c4),(.slice p5 n6 c7)]] [] z z) (s_ (xY (v:=.func (.func 169) #[.agg #[pt f1_.p,ii a2.1,ii a2.2.1,ii a2.2.2,(.slice p2 n3 c4),(.slice p5 n6 c7)]] #[]) underlying3 underlying266 H 3 z z z z d_ (fun w H=>?_))))))))))))))
 have H:St _ _ _ [_,_,_,_]:=H
 refine vr (bp (l:=[pt f1_.p,ii a2.1,ii a2.2.1,ii a2.2.2,(.slice p2 n3 c4),(.slice p5 n6 c7)]) jC (H.Gt 2 z) z z z) (vr (cf (cs:=[pt f1_.p,ii a2.1,ii a2.2.1,ii a2.2.2,(.slice p2 n3 c4),(.slice p5 n6 c7)]) GH d_) (vr (gw [.agg #[pt f1_.p,ii a2.1,ii a2.2.1,ii a2.2.2,(.slice p2 n3 c4),(.slice p5 n6 c7)]] [] z z) (s_ (xY (v:=.func (.func 170) #[.agg #[pt f1_.p,ii a2.1,ii a2.2.1,ii a2.2.2,(.slice p2 n3 c4),(.slice p5 n6 c7)]] #[]) underlying3 underlying266 H 3 z z z z d_ (fun w H=>vr (bp (l:=[pt f1_.p,ii a2.1,ii a2.2.1,ii a2.2.2,(.slice p2 n3 c4),(.slice p5 n6 c7)]) jC (H.Gt 2 z) z z z) (vr (cf (cs:=[pt f1_.p,ii a2.1,ii a2.2.1,ii a2.2.2,(.slice p2 n3 c4),(.slice p5 n6 c7)]) GI d_) (vr (gw [.agg #[pt f1_.p,ii a2.1,ii a2.2.1,ii a2.2.2,(.slice p2 n3 c4),(.slice p5 n6 c7)]] [] z z) (s_ (xY (v:=.func (.func 171) #[.agg #[pt f1_.p,ii a2.1,ii a2.2.1,ii a2.2.2,(.slice p2 n3 c4),(.slice p5 n6 c7)]] #[]) underlying3 underlying266 H 3 z z z z d_ (fun w H=>A_ ?_))))))))))
 rcases bR (decide (a0=1))with c1|c1
 ·have E:=iT c1 E
  refine vr (ui underlying3 underlying266 sT (H.Gt 3 z) z z z (by simp only[ψ,Bv,mJ,c1,EK,U_])) (vr (sg (.func (.func 169) #[.agg #[pt f1_.p,ii a2.1,ii a2.2.1,ii a2.2.2,(.slice p2 n3 c4),(.slice p5 n6 c7)]] #[]) z) (nl (ae (rg (vr (mv (.func (.func 169) #[.agg #[pt f1_.p,ii a2.1,ii a2.2.1,ii a2.2.2,(.slice p2 n3 c4),(.slice p5 n6 c7)]] #[]) z) (vr (xh underlying261 z z z) (vr (mv (.bool false) z) (oo z z (bp (l:=[pt f1_.p,ii a2.1,ii a2.2.1,ii a2.2.2,(.slice p2 n3 c4),(.slice p5 n6 c7)]) jC (H.Gt 2 z) z z z) ?_))))))))
  refine dP z z z (YL vf H 0 E z (fun _=>jw.calls (H.Gt 0 z) (H.cj 0 z (H.rd h3)) (H.cj 0 z (H.rd h4))) (fun x1 E w H=>A_ ?_))
  refine aE E z ?_ ?_<;>intro c2 E<;>refine A_ ?_
  ·have H:=H.bB (.int .u8) 5
   cases E
   exact(aL ⟨.inl z,_,tk0 z ⟨aB z (ad (ad ai)),_,z,H.bN 0 4 z z z⟩⟩)
  obtain⟨x2,E2,E⟩:=ay E
  refine ye (qv z G1 z ((oI.calls (H.Gt 0 z) (H.cj 0 z (H.rd h3)) (H.cj 0 z (H.rd h4)) E2).mono ?_))
  rintro _ w ⟨v1,rfl,K⟩
  have H:=H.aV 0 z K
  refine⟨_,z,A_ ?_⟩
  cases E
  exact⟨.inl z,_,tk0 z ⟨aB z (ad (ad ai)),_,z,H.bN 0 4 z z z⟩⟩
 have E:=iF c1 E
 rcases bR (decide (a0=2))with c3|c3
 ·have E:=iT c3 E
  refine vr (ui underlying3 underlying266 sT (H.Gt 3 z) z z z (by simp only[ψ,Bv,mJ,c1,c3,EK,U_])) (vr (sg (.func (.func 170) #[.agg #[pt f1_.p,ii a2.1,ii a2.2.1,ii a2.2.2,(.slice p2 n3 c4),(.slice p5 n6 c7)]] #[]) z) (nl (ae (rg (vr (mv (.func (.func 170) #[.agg #[pt f1_.p,ii a2.1,ii a2.2.1,ii a2.2.2,(.slice p2 n3 c4),(.slice p5 n6 c7)]] #[]) z) (vr (xh underlying261 z z z) (vr (mv (.bool false) z) (oo z z (bp (l:=[pt f1_.p,ii a2.1,ii a2.2.1,ii a2.2.2,(.slice p2 n3 c4),(.slice p5 n6 c7)]) jC (H.Gt 2 z) z z z) ?_))))))))
  refine dP z z z (YL vf H 0 E z (fun _=>jw.calls (H.Gt 0 z) (H.cj 0 z (H.rd h3)) (H.cj 0 z (H.rd h4))) (fun x3 E w H=>A_ ?_))
  refine aE E z ?_ ?_<;>intro c5 E<;>refine A_ ?_
  ·have H:=H.bB (.int .u8) 5
   cases E
   exact(aL ⟨.inl z,_,tk0 z ⟨aB z (ad (ad ai)),_,z,H.bN 0 4 z z z⟩⟩)
  obtain⟨x4,E4,E⟩:=ay E
  refine ye (qv z G2 z ((oJ.calls (H.Gt 0 z) (H.cj 0 z (H.rd h3)) (H.cj 0 z (H.rd h4)) E4).mono ?_))
  rintro _ w ⟨v2,rfl,K⟩
  have H:=H.aV 0 z K
  refine⟨_,z,A_ ?_⟩
  cases E
  exact⟨.inl z,_,tk0 z ⟨aB z (ad (ad ai)),_,z,H.bN 0 4 z z z⟩⟩
 have E:=iF c3 E
 rcases bR (decide (a0=3))with c6|c6
 ·have E:=iT c6 E
  refine vr (ui underlying3 underlying266 sT (H.Gt 3 z) z z z NY) (vr (sg (.func (.func 171) #[.agg #[pt f1_.p,ii a2.1,ii a2.2.1,ii a2.2.2,(.slice p2 n3 c4),(.slice p5 n6 c7)]] #[]) z) (nl (ae (rg (vr (mv (.func (.func 171) #[.agg #[pt f1_.p,ii a2.1,ii a2.2.1,ii a2.2.2,(.slice p2 n3 c4),(.slice p5 n6 c7)]] #[]) z) (vr (xh underlying261 z z z) (vr (mv (.bool false) z) (oo z z (bp (l:=[pt f1_.p,ii a2.1,ii a2.2.1,ii a2.2.2,(.slice p2 n3 c4),(.slice p5 n6 c7)]) jC (H.Gt 2 z) z z z) ?_))))))))
  refine dP z z z (YL vf H 0 E z (fun _=>jw.calls (H.Gt 0 z) (H.cj 0 z (H.rd h3)) (H.cj 0 z (H.rd h4))) (fun x5 E w H=>A_ ?_))
  refine aE E z ?_ ?_<;>intro c8 E<;>refine A_ ?_
  ·have H:=H.bB (.int .u8) 5
   cases E
   exact(aL ⟨.inl z,_,tk0 z ⟨aB z (ad (ad ai)),_,z,H.bN 0 4 z z z⟩⟩)
  obtain⟨x6,E6,E⟩:=ay E
  refine ye (qv z G3 z ((eY.calls (H.Gt 0 z) (H.cj 0 z (H.rd h3)) (H.cj 0 z (H.rd h4)) E6).mono ?_))
  rintro _ w ⟨v3,rfl,K⟩
  have H:=H.aV 0 z K
  refine⟨_,z,A_ ?_⟩
  cases E
  exact⟨.inl z,_,tk0 z ⟨aB z (ad (ad ai)),_,z,H.bN 0 4 z z z⟩⟩
 have E:=iF c6 E
 refine vr (ui underlying3 underlying266 sT (H.Gt 3 z) z z z NY) (vr (sg (.nilFunc) z) (nl (ae (rg (vr (mv (.nilFunc) z) (vr (Oz underlying261 z z z) (vr (mv (.bool true) z) (ow z z (ow z z (ow z z (vr (pT (.bool true) z z z) (nl (cl z (rg (vr (sg sn z) (vr (sg (.bool false) z) (nl (aj ?_))))))))))))))))))
 have H:=H.bB (.int .u8) 5
 cases E
 exact(aL ⟨.inl z,_,tk0 z ⟨aB z (ad (ad ai)),_,z,H.bN 0 4 z z z⟩⟩)
def iK.j0(a0:Int×Int×Int)(a1:List Int)(x1:Int):Option (List Int×Int):=bif !decide (x1=0)then(some (([]:List Int),x1))else((gf.f (a0.1,a0.2.1,a0.2.2)).bind fun x2=>an (decide ((0:Int)≤x2∧x2≤(a1.length:Int))) ((dM.f ((a1.take a1.length).drop x2.toNat)).bind fun x3=>some (x3,0)))
def iK.f(a0:Int×Int×Int)(a1:List Int):Option (List Int×Int):=(dh.f (a0.1,a0.2.1,a0.2.2)).bind fun x1=>bif !(decide (x1=0))then(iK.j0 a0 a1 10)else(bif !(decide ((a1.length:Int)=a0.1))then(iK.j0 a0 a1 12)else(iK.j0 a0 a1 0))
theorem iK.calls{a0:Int×Int×Int}{a1:List Int}{r:List Int×Int}(h1:Zf no w0 v1_ a1)(E:iK.f a0 a1=some r):
 Calls aa 173 #[.agg #[ii a0.1,ii a0.2.1,ii a0.2.2],v1_] w0 fun e w'=>∃(u0:Value),e= .returned (.tuple #[u0,.int .u16 r.2])∧St no w0 w' [Y9 u0 r.1]:=by
 have H:=St.nil no w0
 unfold iK.f at E
 refine Zb func173 ?_
 obtain⟨k,_⟩:∃k:Nat,k=0:=⟨0,rfl⟩
 refine rg (ye (bc (cs:=#[ii a0.1,ii a0.2.1,ii a0.2.2]) H z (fun b1 w H=>?_)))
 obtain⟨p2,n3,c4,rfl⟩:=eO h1
 refine ye (bc (cs:=#[(.slice p2 n3 c4)]) H z (fun b5 w H=>A_ ?_))
 refine vr (dt [pt b1] z) (vr (cf (cs:=[.func (.func 227) #[] #[pt b1],.int .u16 10]) sL z) (vr (dt [pt b5,pt b1] z) (vr (cf (cs:=[.func (.func 228) #[] #[pt b5,pt b1],.int .u16 12]) sL z) (ye (oO (l:=[.func (.func 227) #[] #[pt b1],.int .u16 10,.func (.func 228) #[] #[pt b5,pt b1],.int .u16 12]) py H z f_ ⟨z,z,z,z,z,z,acu⟩ f_ (fun b6 w H=>?_))))))
 refine ye (fZ (fun v w=>∃(k17:Nat)(x1:Int),k17≤k∧iK.j0 a0 a1 x1=some r∧v= .int .u16 x1∧St no w0 w [.blk b1 #[ii a0.1,ii a0.2.1,ii a0.2.2] 24,.blk b5 #[(.slice p2 n3 c4)] 22,.blk b6 #[.func (.func 227) #[] #[pt b1],.int .u16 10,.func (.func 228) #[] #[pt b5,pt b1],.int .u16 12] 249]) ?_ ?_)
 ·refine cm 18 [.slice (some ⟨b6,0,none⟩) 2 2] zk func157 z z z z (A_ ?_)
  refine vr (bJ (lP zH z) (v':=ii 2) z) (A_ ?_)
  refine se (wu (A_ ?_))
  refine vr (bJ (kz py z z f_ f_) (v':=pt b6) z) (vr (bp (l:=[.func (.func 227) #[] #[pt b1],.int .u16 10]) sK (H.Gt 2 z) z z z) (ye (cr sU H (fun b2 w H=>s_ (cy sQ H 3 z z z z z z (fun w H=>A_ ?_))))))
  have H:St _ _ _ [_,_,_,_]:=H
  refine A_ ?_
  refine ye (kK 5 [pt b1] z Hg func227 z z z z (A_ ?_))
  refine vr (bp (l:=[ii a0.1,ii a0.2.1,ii a0.2.2]) cv (H.Gt 0 z) z z z) ?_
  refine ye (E9 jF H E (fun _=>dh.calls) (fun x2 E w H=>A_ ?_))
  refine⟨.inl z,.bool (decide (x2=0)),tk0 z ⟨ba z (ad ai) z,vr (cp z) (nl ?_)⟩⟩
  refine aE E z ?_ ?_<;>intro c1 E<;>refine A_ ?_
  ·exact(bG (aL (aL (bG (aL ⟨.inl z,.int .u16 10,tk0 z ⟨ba z (ad ai) z,k,_,aI _,E,z,H.Y8 [0,1,2]⟩⟩)))))
  refine wu (A_ ?_)
  refine vr (bJ (kz py z z f_ f_) (v':=.pointer (some ⟨b6,2,none⟩)) z) (vr (bp (l:=[.func (.func 228) #[] #[pt b5,pt b1],.int .u16 12]) sK (H.Gt 2 z) z z z) (ye (cr sU H (fun b3 w H=>s_ (cy sQ H 4 z z z z z z (fun w H=>A_ ?_))))))
  refine ye (kK 8 [pt b5,pt b1] z Hh func228 z z z z (A_ ?_))
  refine⟨.inl z,.bool (decide ((a1.length:Int)=a0.1)),tk0 z ⟨ba z (ad ai) z,(vr (cp z) ?_)⟩⟩
  refine nl ?_
  refine aE E z ?_ ?_<;>intro c2 E<;>refine A_ ?_
  ·exact(bG (aL (aL (bG (aL ⟨.inl z,.int .u16 12,tk0 z ⟨ba z (ad ai) z,k,_,aI _,E,z,H.Y8 [0,1,2]⟩⟩)))))
  refine wu (A_ ?_)
  exact⟨.inl z,.int .u16 0,tk0 z ⟨ba z (ad ai) z,k,_,aI _,E,z,H.Y8 [0,1,2]⟩⟩
 rintro _ w ⟨k17,x1,hk1,E,hv_,H⟩
 have hv_:=hv_.symm
 subst hv_
 unfold iK.j0 at E
 refine A_ ?_
 refine aE E z ?_ ?_<;>intro c3 E
 ·refine A_ ?_
  have H:=H.bB (.int .u8) 5
  cases E
  exact(aL ⟨.inl z,_,tk0 z ⟨aB z (ad (ad ai)),_,z,H.bA 3 z⟩⟩)
 refine aA (ab (ae (cd (ds:=[]) bZ H z z ?_)))
 have H:=H.drew
 refine B_ [0] H ?_
 refine wz 1 z H (fun w H=>bp (l:=[ii a0.1,ii a0.2.1,ii a0.2.2]) cv (H.Gt 0 z) z z z) ?_
 refine wo 2 z (E9 pf H E (fun _=>gf.calls) (fun x3 E w H=>⟨fun _=>H.Y8 [0,1,2],?_⟩))
 obtain⟨⟨g1,g2⟩,E⟩:=ar E
 have p1:x3.toNat≤a1.length:=a_
 have p3:a1.length≤a1.length:=a_
 refine wz 3 z (H.Y8 [0,1,2]) (fun w H=>iW aN (H.rd h1) z z g1 g2) ?_
 refine wo 4 z (YM nD H E (fun _=>dM.calls (H.arg (Rd.bz (H.rd h1) p1 p3))) (fun x4 E v1 w H=>⟨fun _=>H.Y8 [0,1,2],B_ [5,6] (H.Y8 [0,1,2]) ?_⟩))
 cases E
 exact⟨.inl z,_,tk0 z ⟨aB z (ad (ad ai)),_,z,H.bA 3 z⟩⟩
def hJ.l0:Nat→List Int→List Int→List (Int)→Int→Option (List Int)
 |0,_,_,_,_=>none
 |k+1,a0,a1,l1,x1=>bif decide (x1<(((a1.take ((min2 (a0.length:Int) (a1.length:Int)).toNat)).drop 0).length:Int))then(an (decide ((0:Int)≤x1∧x1<(((a1.take ((min2 (a0.length:Int) (a1.length:Int)).toNat)).drop 0).length:Int))) (an (decide ((0:Int)≤x1∧x1<(a0.length:Int))) (bif !decide (at_ 0 a0 x1=at_ 0 ((a1.take ((min2 (a0.length:Int) (a1.length:Int)).toNat)).drop 0) x1)then(an (decide ((l1.length+([x1]).length)*8≤140737488355328)) (hJ.l0 k a0 a1 (l1++([x1])) (I W (x1+1))))else(hJ.l0 k a0 a1 l1 (I W (x1+1))))))else(some l1)
def hJ.f(k:Nat)(a0 a1:List Int):Option (List Int):=an (decide ((0:Int)≤min2 (a0.length:Int) (a1.length:Int)∧min2 (a0.length:Int) (a1.length:Int)≤(a1.length:Int))) (hJ.l0 k a0 a1 ([]:List Int) 0)
theorem hJ.calls{a0 a1:List Int}{r:List Int}(h0:Zf no w0 v0_ a0)(h1:Zf no w0 v1_ a1)(E:hJ.f k a0 a1=some r):
 Calls aa 174 #[v0_,v1_] w0 fun e w'=>∃(u0:Value),e= .returned (u0)∧St no w0 w' [Zh u0 r]:=by
 have H:=St.nil no w0
 unfold hJ.f at E
 refine Zb func174 ?_
 have H:=H.mk0
 refine A_ ?_
 refine ye (cr Im H (fun b1 w H=>A_ ?_))
 refine ye (cm 6 [v0_,v1_] zr func229 z z z z (rg ?_))
 obtain⟨p1,n1,c1,rfl⟩:=eO h0
 refine ye (bc (cs:=#[(.slice p1 n1 c1)]) H z (fun b2 w H=>?_))
 obtain⟨p2,n2,c2,rfl⟩:=eO h1
 refine ye (bc (cs:=#[(.slice p2 n2 c2)]) H z (fun b3 w H=>A_ ?_))
 refine vr (dt [pt b3,pt b2] z) (A_ ?_)
 refine⟨.inl z,.func (.func 281) #[] #[pt b3,pt b2],tk0 z ⟨ba z (ad ai) z,nl (aG (je 33 [pt b3,pt b2] z func281 z z z z z H 0 z z (fun v1 b4 o1 w hO1 H=>rg (vr (av bQ z (ak (H.Gt 3 z) z)) (vr (av bQ z (ak (H.Gt 2 z) z)) (vr (aY bI (H.rd h0) z) (vr (av bQ z (ak (H.Gt 3 z) z)) (vr (aY bI (H.rd h1) z) (vr (kA z z) ?_)))))))))⟩⟩
 obtain⟨⟨g1,g2⟩,E⟩:=ar E
 have p3:0≤(min2 (a0.length:Int) (a1.length:Int)).toNat:=a_
 have p4:(min2 (a0.length:Int) (a1.length:Int)).toNat≤a1.length:=a_
 refine vr (fU aN (H.rd h1) z z g1 g2) (vr (aY bI (Rd.bz (H.rd h1) p3 p4) z) (A_ ?_))
 have H:=H.bB (.int .i64) 3
 refine bx (fun kk t w=>∃(l1:List Int)(x1:Int)(v2:Value)(t1:Fr),kk≤k∧hJ.l0 kk a0 a1 l1 x1=some r∧t=aU t1 [(0,.func (.yield b4) #[] #[]),(2,pt b2),(12,bz (.slice p2 n2 c2) 0 ((min2 (a0.length:Int) (a1.length:Int)).toNat) 1),(13,ii (((a1.take ((min2 (a0.length:Int) (a1.length:Int)).toNat)).drop 0).length:Int)),(14,ii x1),Zc]∧St no w0 w [.bO v1,.blk b1 #[v2] 28,.blk b2 #[(.slice p1 n1 c1)] 22,.blk b3 #[(.slice p2 n2 c2)] 22,.obj b4 (.loop o1),Zh v2 l1]) k Ze ?_
 rintro kk t w ⟨l1,x1,v2,t1,hk1,E,rfl,H⟩
 obtain⟨k1,rfl⟩:=Zd kk
 rw[hJ.l0]at E
 refine A_ ?_
 refine aE E z ?_ ?_<;>intro c3 E<;>refine A_ ?_
 ·obtain⟨⟨g3,g4⟩,E⟩:=ar E
  refine vr (bo aN (Rd.bz (H.rd h1) p3 p4) z z g3 g4) (vr (bq bC (Rd.bz (H.rd h1) p3 p4) g3 g4 z) (A_ ?_))
  obtain⟨⟨g5,g6⟩,E⟩:=ar E
  refine A_ ?_
  rcases bR (!decide (at_ 0 a0 x1=at_ 0 ((a1.take ((min2 (a0.length:Int) (a1.length:Int)).toNat)).drop 0) x1))with c4|c4
  ·have E:=iT c4 E
   refine A_ ?_
   refine dP z c4 z (jf [ii x1,iu (at_ 0 ((a1.take ((min2 (a0.length:Int) (a1.length:Int)).toNat)).drop 0) x1)] z z H 4 z hO1 z z (A_ ?_))
   refine yB H 4 z hO1 (fun w H=>A_ ?_)
   refine ye (cL (e:=(.int .i64)) (l:=[x1]) gl H z f_ ⟨z,z,acu⟩ f_ (fun v3 w H=>?_))
   obtain⟨g7,E⟩:=ar E
   refine ye (dZ gl H 5 z (ao (H.Gt 6 z)) z z a_ u_ (fun v4 w H=>?_))
   obtain⟨p5,n3,c5,rfl⟩:=bX (H.Gt 5 z)
   refine s_ (cQ vy H 1 z z z z z (fun w H=>aK (aR (yN H 4 z hO1 (fun w H=>A_ ?_)))))
   exact⟨k1,bL _,_,_,_,_,bK hk1,E,Za,H.Y8 [0,1,2,3,4,5]⟩
  have E:=iF c4 E
  refine A_ ?_
  exact⟨k1,bL _,_,_,_,_,bK hk1,E,Za,H⟩
 refine⟨.inr z,.tuple #[],tk0 z ⟨ba z ai z,ji H 4 z hO1 (fun w H=>aR (ab (rg (vr (av eU z (ak (H.Gt 1 z) z)) (va v2 (nl (aj ?_)))))))⟩⟩
 cases E
 exact⟨.inl z,_,gT H 0 z z (fun w H=>⟨aB z (ad ai),_,z,H.bA 5 z⟩)⟩
def iG.j0(k:Nat)(a1 a2:List Int)(x3:List Int×Int)(x9:Int):Option ((List Int×List Int×List Int)×Int):=bif !decide (x9=0)then(some ((([]:List Int),([]:List Int),([]:List Int)),x9))else((dM.f a2).bind fun x1=>(hJ.f k a1 a2).bind fun x2=>some ((x1,x3.1,x2),0))
def iG.f(k:Nat)(a0:Int×Int×Int)(a1 a2:List Int):Option ((List Int×List Int×List Int)×Int):=(iK.f (a0.1,a0.2.1,a0.2.2) a2).bind fun x3=>bif decide (x3.2=0)then(bif !decide ((a1.length:Int)=a0.1)then(iG.j0 k a1 a2 x3 12)else(iG.j0 k a1 a2 x3 x3.2))else(iG.j0 k a1 a2 x3 x3.2)
theorem iG.calls{a0:Int×Int×Int}{a1 a2:List Int}{r:(List Int×List Int×List Int)×Int}(h1:Zf no w0 v1_ a1)(h2:Zf no w0 v2_ a2)(E:iG.f k a0 a1 a2=some r):
 Calls aa 109 #[.agg #[ii a0.1,ii a0.2.1,ii a0.2.2],v1_,v2_] w0 fun e w'=>∃(u0_0 u0_1 u0_2:Value),e= .returned (.tuple #[.agg #[u0_0,u0_1,u0_2],.int .u16 r.2])∧St no w0 w' [Y9 u0_0 r.1.1,Y9 u0_1 r.1.2.1,Zh u0_2 r.1.2.2]:=by
 have H:=St.nil no w0
 unfold iG.f at E
 refine Zb func109 ?_
 refine rg (ye (bc (cs:=#[ii a0.1,ii a0.2.1,ii a0.2.2]) H z (fun b1 w H=>ye (cr vB H (fun b2 w H=>A_ ?_)))))
 refine vr (bp (l:=[ii a0.1,ii a0.2.1,ii a0.2.2]) cv (H.Gt 0 z) z z z) (A_ ?_)
 refine ye (YM G4 H E (fun _=>iK.calls (H.arg (H.rd h2))) (fun x3 E v5 w H=>J_ ?_))
 refine cA (fun t w=>∃(k11:Nat)(x9:Int)(t1:Fr),k11≤k∧iG.j0 k11 a1 a2 x3 x9=some r∧t=aU t1 [(1,v1_),(2,v2_),(6,pt b2),(7,.int .u16 0),(8,v5),(9,.int .u16 x9),Zc]∧St no w0 w [.blk b1 #[ii a0.1,ii a0.2.1,ii a0.2.2] 24,.blk b2 #[sn,sn,sn] 33,Y9 v5 x3.1]) ?_ ?_
 ·refine A_ ?_
  rcases bR (decide (x3.2=0))with c1|c1
  ·have E:=iT c1 E
   refine A_ ?_
   refine aE E z ?_ ?_<;>intro c2 E
   ·refine A_ ?_
    exact⟨k,_,_,aI _,E,Za,H⟩
   refine aA ?_
   exact⟨k,_,_,aI _,E,Za,H⟩
  have E:=iF c1 E
  refine A_ ?_
  exact⟨k,_,_,aI _,E,Za,H⟩
 rintro t w ⟨k11,x9,t1,hk1,E,rfl,H⟩
 unfold iG.j0 at E
 refine A_ ?_
 refine aE E z ?_ ?_<;>intro c3 E
 ·refine rg (vr (cf (cs:=[sn,sn,sn]) zh z) (A_ ?_))
  refine s_ (cy sR H 1 z z z z z z (fun w H=>A_ ?_))
  have H:=H.bB (.int .u8) 5
  have H:=H.bB (.int .u8) 5
  have H:=H.bB (.int .i64) 3
  cases E
  exact(aL ⟨.inl z,_,tk0 z ⟨aB z (dL z zf (eG (n:=3) (H.Gt 1 z) z) z (ad ai)),_,_,_,z,H.fJ 3 4 5 z z z z z z⟩⟩)
 refine A_ ?_
 refine ye (YM nD H E (fun _=>dM.calls (H.arg (H.rd h2))) (fun x1 E v1 w H=>A_ ?_))
 refine ye (YM G5 H E (fun _=>hJ.calls (H.arg (H.rd h1)) (H.arg (H.rd h2))) (fun x2 E v2 w H=>?_))
 obtain⟨p1,n1,c4,rfl⟩:=bX (H.Gt 3 z)
 obtain⟨p2,n2,c5,rfl⟩:=bX (H.Gt 2 z)
 obtain⟨p3,n3,c6,rfl⟩:=bX (H.Gt 4 z)
 refine vr (cf (cs:=[(.slice p1 n1 c4),(.slice p2 n2 c5),(.slice p3 n3 c6)]) zh z) (s_ (cy sR H 1 z z z z z z (fun w H=>A_ ?_)))
 cases E
 exact⟨.inl z,_,tk0 z ⟨aB z (dL z zf (eG (n:=3) (H.Gt 1 z) z) z (ad ai)),_,_,_,z,H.fJ 3 2 4 z z z z z z⟩⟩
def jS.f(a0:Int×Int):Option (Int):=bif decide (a0.1<0)then(some 11)else(bif decide (3<a0.1)then(some 11)else(bif decide (a0.2<0)then(some 11)else(bif decide (3<a0.2)then(some 11)else(some 0))))
theorem jS.calls{a0:Int×Int}{r:Int}(E:jS.f a0=some r):
 Calls aa 69 #[.agg #[ii a0.1,ii a0.2]] w0 fun e w'=>e= .returned (.int .u16 r)∧St no w0 w' []:=by
 have H:=St.nil no w0
 unfold jS.f at E
 refine Zb func69 ?_
 refine rg (ye (bc (cs:=#[ii a0.1,ii a0.2]) H z (fun b1 w H=>A_ ?_)))
 rcases bR (decide (a0.1<0))with c2|c2
 ·have E:=iT c2 E
  refine A_ ?_
  cases E
  exact(aL ⟨.inl z,_,tk0 z ⟨aB z (ad ai),z,H.bs⟩⟩)
 have E:=iF c2 E
 refine A_ ?_
 rcases bR (decide (3<a0.1))with c3|c3
 ·have E:=iT c3 E
  refine A_ ?_
  cases E
  exact(aL ⟨.inl z,_,tk0 z ⟨aB z (ad ai),z,H.bs⟩⟩)
 have E:=iF c3 E
 refine A_ ?_
 rcases bR (decide (a0.2<0))with c4|c4
 ·have E:=iT c4 E
  refine A_ ?_
  cases E
  exact(aL ⟨.inl z,_,tk0 z ⟨aB z (ad ai),z,H.bs⟩⟩)
 have E:=iF c4 E
 refine A_ ?_
 refine aE E z ?_ ?_<;>intro c5 E<;>refine A_ ?_
 ·cases E
  exact(aL ⟨.inl z,_,tk0 z ⟨aB z (ad ai),z,H.bs⟩⟩)
 cases E
 exact⟨.inl z,_,tk0 z ⟨aB z (ad ai),z,H.bs⟩⟩
def rJ.f(a0:(Int×Int×Int)×Int):Option (Bool):=some (decide (a0.1.1≤16))
theorem rJ.calls{a0:(Int×Int×Int)×Int}{r:Bool}(E:rJ.f a0=some r):
 Calls aa 150 #[.agg #[ii a0.1.1,ii a0.1.2.1,ii a0.1.2.2,ii a0.2]] w0 fun e w'=>e= .returned (.bool r)∧St no w0 w' []:=by
 have H:=St.nil no w0
 unfold rJ.f at E
 refine Zb func150 ?_
 refine rg (ye (bc (cs:=#[ii a0.1.1,ii a0.1.2.1,ii a0.1.2.2,ii a0.2]) H z (fun b1 w H=>A_ ?_)))
 cases E
 exact⟨.inl z,_,tk0 z ⟨aB z (ad ai),z,H.bs⟩⟩
def rK.f(a0:(Int×Int×Int)×Int):Option (Bool):=(gf.f (a0.1.1,a0.1.2.1,a0.1.2.2)).bind fun x2=>some (decide (I W (Int.tdiv (I W (x2+1)) 2)≤a0.2))
theorem rK.calls{a0:(Int×Int×Int)×Int}{r:Bool}(E:rK.f a0=some r):
 Calls aa 151 #[.agg #[ii a0.1.1,ii a0.1.2.1,ii a0.1.2.2,ii a0.2]] w0 fun e w'=>e= .returned (.bool r)∧St no w0 w' []:=by
 have H:=St.nil no w0
 unfold rK.f at E
 refine Zb func151 ?_
 refine rg (ye (bc (cs:=#[ii a0.1.1,ii a0.1.2.1,ii a0.1.2.2,ii a0.2]) H z (fun b1 w H=>A_ ?_)))
 refine cd (ds:=[]) bZ H z z ?_
 have H:=H.drew
 refine B_ [0,1,2] H ?_
 refine wz 3 z H (fun w H=>bp (l:=[ii a0.1.1,ii a0.1.2.1,ii a0.1.2.2]) cv (H.Gt 0 z) z z z) ?_
 refine wo 4 z (E9 pf H E (fun _=>gf.calls) (fun x2 E w H=>⟨fun _=>H.Y8 [0],B_ [5,6,7,8] (H.Y8 [0]) ?_⟩))
 cases E
 exact⟨.inl z,_,tk0 z ⟨aB z (ad ai),z,H.bs⟩⟩
def rL.f(a0:(Int×Int×Int)×Int):Option (Bool):=some true
theorem rL.calls{a0:(Int×Int×Int)×Int}{r:Bool}(E:rL.f a0=some r):
 Calls aa 153 #[.agg #[ii a0.1.1,ii a0.1.2.1,ii a0.1.2.2,ii a0.2]] w0 fun e w'=>e= .returned (.bool r)∧St no w0 w' []:=by
 have H:=St.nil no w0
 unfold rL.f at E
 refine Zb func153 ?_
 refine rg (ye (bc (cs:=#[ii a0.1.1,ii a0.1.2.1,ii a0.1.2.2,ii a0.2]) H z (fun b1 w H=>A_ ?_)))
 cases E
 exact⟨.inl z,_,tk0 z ⟨aB z (ad ai),z,H.bs⟩⟩
def rM.f(a0:(Int×Int×Int)×Int):Option (Bool):=some (decide (64≤a0.1.1))
theorem rM.calls{a0:(Int×Int×Int)×Int}{r:Bool}(E:rM.f a0=some r):
 Calls aa 154 #[.agg #[ii a0.1.1,ii a0.1.2.1,ii a0.1.2.2,ii a0.2]] w0 fun e w'=>e= .returned (.bool r)∧St no w0 w' []:=by
 have H:=St.nil no w0
 unfold rM.f at E
 refine Zb func154 ?_
 refine rg (ye (bc (cs:=#[ii a0.1.1,ii a0.1.2.1,ii a0.1.2.2,ii a0.2]) H z (fun b1 w H=>A_ ?_)))
 cases E
 exact⟨.inl z,_,tk0 z ⟨aB z (ad ai),z,H.bs⟩⟩
def rN.f(a0:(Int×Int×Int)×Int):Option (Bool):=some (decide (a0.1.1<16))
theorem rN.calls{a0:(Int×Int×Int)×Int}{r:Bool}(E:rN.f a0=some r):
 Calls aa 155 #[.agg #[ii a0.1.1,ii a0.1.2.1,ii a0.1.2.2,ii a0.2]] w0 fun e w'=>e= .returned (.bool r)∧St no w0 w' []:=by
 have H:=St.nil no w0
 unfold rN.f at E
 refine Zb func155 ?_
 refine rg (ye (bc (cs:=#[ii a0.1.1,ii a0.1.2.1,ii a0.1.2.2,ii a0.2]) H z (fun b1 w H=>A_ ?_)))
 cases E
 exact⟨.inl z,_,tk0 z ⟨aB z (ad ai),z,H.bs⟩⟩
def rO.f(a0:(Int×Int×Int)×Int):Option (Bool):=some true
theorem rO.calls{a0:(Int×Int×Int)×Int}{r:Bool}(E:rO.f a0=some r):
 Calls aa 156 #[.agg #[ii a0.1.1,ii a0.1.2.1,ii a0.1.2.2,ii a0.2]] w0 fun e w'=>e= .returned (.bool r)∧St no w0 w' []:=by
 have H:=St.nil no w0
 unfold rO.f at E
 refine Zb func156 ?_
 refine rg (ye (bc (cs:=#[ii a0.1.1,ii a0.1.2.1,ii a0.1.2.2,ii a0.2]) H z (fun b1 w H=>A_ ?_)))
 cases E
 exact⟨.inl z,_,tk0 z ⟨aB z (ad ai),z,H.bs⟩⟩
def dz.j2(x1 x2:Int):Option ((Int×Int)×Int):=some ((x1,x2),0)
def dz.j0(a0:Int×Int×Int)(a1:Int)(a2:Int×Int)(x1:Int):Option ((Int×Int)×Int):=bif decide (a2.2=0)then((rM.f ((a0.1,a0.2.1,a0.2.2),a1)).bind fun x2=>bif x2 then(dz.j2 x1 1)else((rN.f ((a0.1,a0.2.1,a0.2.2),a1)).bind fun x3=>bif x3 then(dz.j2 x1 2)else((rO.f ((a0.1,a0.2.1,a0.2.2),a1)).bind fun x4=>bif x4 then(dz.j2 x1 3)else(dz.j2 x1 0))))else(some ((x1,a2.2),0))
def dz.j1(a0:Int×Int×Int)(a1:Int)(a2:Int×Int)(x1:Int):Option ((Int×Int)×Int):=dz.j0 a0 a1 a2 x1
def dz.f(a0:Int×Int×Int)(a1:Int)(a2:Int×Int):Option ((Int×Int)×Int):=(dh.f (a0.1,a0.2.1,a0.2.2)).bind fun x7=>bif !decide (x7=0)then(some ((0,0),x7))else((jS.f (a2.1,a2.2)).bind fun x1=>bif !decide (x1=0)then(some ((0,0),x1))else(bif decide (a2.1=0)then((rJ.f ((a0.1,a0.2.1,a0.2.2),a1)).bind fun x2=>bif x2 then(dz.j1 a0 a1 a2 3)else((rK.f ((a0.1,a0.2.1,a0.2.2),a1)).bind fun x64=>bif x64 then(dz.j1 a0 a1 a2 2)else((rL.f ((a0.1,a0.2.1,a0.2.2),a1)).bind fun x3=>bif x3 then(dz.j1 a0 a1 a2 1)else(dz.j1 a0 a1 a2 0))))else(dz.j0 a0 a1 a2 a2.1)))
theorem dz.calls{a0:Int×Int×Int}{a1:Int}{a2:Int×Int}{r:(Int×Int)×Int}(E:dz.f a0 a1 a2=some r):
 Calls aa 102 #[.agg #[ii a0.1,ii a0.2.1,ii a0.2.2],ii a1,.agg #[ii a2.1,ii a2.2]] w0 fun e w'=>e= .returned (.tuple #[.agg #[ii r.1.1,ii r.1.2],.int .u16 r.2])∧St no w0 w' []:=by
 have H:=St.nil no w0
 unfold dz.f at E
 refine Zb func102 ?_
 obtain⟨k,_⟩:∃k:Nat,k=0:=⟨0,rfl⟩
 refine rg (ye (bc (cs:=#[ii a0.1,ii a0.2.1,ii a0.2.2]) H z (fun b1 w H=>ye (bc (cs:=#[ii a2.1,ii a2.2]) H z (fun b2 w H=>ye (cr q9 H (fun b3 w H=>A_ ?_)))))))
 refine vr (bp (l:=[ii a0.1,ii a0.2.1,ii a0.2.2]) cv (H.Gt 0 z) z z z) ?_
 refine ye (E9 jF H E (fun _=>dh.calls) (fun x7 E w H=>A_ ?_))
 refine aE E z ?_ ?_<;>intro c9 E
 ·refine rg (vr (cf (cs:=[ii 0,ii 0]) qT z) (A_ ?_))
  refine s_ (cy lz H 2 z z z z z z (fun w H=>?_))
  have H:St _ _ _ [_,_,_]:=H
  refine A_ ?_
  cases E
  exact(aL ⟨.inl z,_,tk0 z ⟨aB z (dL z gH (eG (n:=2) (H.Gt 2 z) z) z (ad ai)),z,H.bs⟩⟩)
 refine A_ ?_
 refine vr (bp (l:=[ii a2.1,ii a2.2]) gH (H.Gt 1 z) z z z) ?_
 refine ye (E9 H9 H E (fun _=>jS.calls) (fun x1 E w H=>?_))
 have H:St _ _ _ [_,_,_]:=H
 refine A_ ?_
 refine aE E z ?_ ?_<;>intro c1 E
 ·refine rg (vr (cf (cs:=[ii 0,ii 0]) qT z) (A_ ?_))
  refine s_ (cy lz H 2 z z z z z z (fun w H=>A_ ?_))
  cases E
  exact(aL ⟨.inl z,_,tk0 z ⟨aB z (dL z gH (eG (n:=2) (H.Gt 2 z) z) z (ad ai)),z,H.bs⟩⟩)
 refine aA (ab (rg (vr (bp (l:=[ii a0.1,ii a0.2.1,ii a0.2.2]) cv (H.Gt 0 z) z z z) (vm (ii a1) (vr (cf (cs:=[ii a0.1,ii a0.2.1,ii a0.2.2,ii a1]) GC d_) (ye (cr Ik H (fun b4 w H=>s_ (cy Ih H 3 z z z z z z (fun w H=>nl ?_))))))))))
 refine cA (fun t w=>∃(k1:Nat)(x2:Int)(t1:Fr),k1≤k∧dz.j0 a0 a1 a2 x2=some r∧t=aU t1 [(5,pt b2),(6,pt b3),(7,.int .u16 0),(10,pt b4),Zc]∧St no w0 w [.blk b1 #[ii a0.1,ii a0.2.1,ii a0.2.2] 24,.blk b2 #[ii x2,ii a2.2] 60,.blk b3 #[ii 0,ii 0] 60,.blk b4 #[ii a0.1,ii a0.2.1,ii a0.2.2,ii a1] 241]) ?_ ?_
 ·refine A_ ?_
  refine aE E z ?_ ?_<;>intro c2 E
  ·refine aH (vr (bp (l:=[ii a0.1,ii a0.2.1,ii a0.2.2,ii a1]) mm (H.Gt 3 z) z z z) (vr (cf (cs:=[.func (.func 150) #[] #[],ii 3]) pa z) (vr (cf (cs:=[.func (.func 151) #[] #[],ii 2]) pa z) (vr (cf (cs:=[.func (.func 153) #[] #[],ii 1]) pa z) (ye (oO (l:=[.func (.func 150) #[] #[],ii 3,.func (.func 151) #[] #[],ii 2,.func (.func 153) #[] #[],ii 1]) mw H z f_ ⟨z,z,z,z,z,z,z,z,z,acu⟩ f_ (fun b5 w H=>?_)))))))
   refine ye (fZ (fun v w=>∃(k2:Nat)(x3:Int),k2≤k∧dz.j1 a0 a1 a2 x3=some r∧v=ii x3∧St no w0 w [.blk b1 #[ii a0.1,ii a0.2.1,ii a0.2.2] 24,.blk b2 #[ii a2.1,ii a2.2] 60,.blk b3 #[ii 0,ii 0] 60,.blk b4 #[ii a0.1,ii a0.2.1,ii a0.2.2,ii a1] 241,.blk b5 #[.func (.func 150) #[] #[],ii 3,.func (.func 151) #[] #[],ii 2,.func (.func 153) #[] #[],ii 1] 245]) ?_ ?_)
   ·refine cm 20 [.agg #[ii a0.1,ii a0.2.1,ii a0.2.2,ii a1],.slice (some ⟨b5,0,none⟩) 3 3] zj func149 z z z z (rg (ye (bc (cs:=#[ii a0.1,ii a0.2.1,ii a0.2.2,ii a1]) H z (fun b6 w H=>A_ ?_))))
    refine vr (bJ (lP zG z) (v':=ii 3) z) (A_ ?_)
    refine se (wu (A_ ?_))
    refine vr (bJ (kz mw z z f_ f_) (v':=pt b5) z) (vr (bp (l:=[.func (.func 150) #[] #[],ii 3]) o9 (H.Gt 4 z) z z z) (ye (cr pC H (fun b7 w H=>?_))))
    have H:St _ _ _ [_,_,_,_,_,_,_]:=H
    refine s_ (cy pB H 6 z z z z z z (fun w H=>A_ ?_))
    refine vr (bp (l:=[ii a0.1,ii a0.2.1,ii a0.2.2,ii a1]) mm (H.Gt 5 z) z z z) ?_
    obtain⟨x4,E2,E⟩:=ay E
    refine ye (kZ z GM z ((rJ.calls E2).mono ?_))
    rintro _ w ⟨rfl,K⟩
    have H:=H.app K
    refine⟨_,z,nl ?_⟩
    refine aE E z ?_ ?_<;>intro c3 E<;>refine A_ ?_
    ·exact(bG (aL (aL (bG (aL ⟨.inl z,ii 3,tk0 z ⟨ba z (ad ai) z,k,_,aI _,E,z,H.Y8 [0,1,2,3,4]⟩⟩)))))
    refine wu (A_ ?_)
    refine vr (bJ (kz mw z z f_ f_) (v':=.pointer (some ⟨b5,2,none⟩)) z) (vr (bp (l:=[.func (.func 151) #[] #[],ii 2]) o9 (H.Gt 4 z) z z z) (ye (cr pC H (fun b8 w H=>s_ (cy pB H 7 z z z z z z (fun w H=>A_ ?_))))))
    refine vr (bp (l:=[ii a0.1,ii a0.2.1,ii a0.2.2,ii a1]) mm (H.Gt 5 z) z z z) ?_
    obtain⟨x64,E3,E⟩:=ay E
    refine ye (kZ z GN z ((rK.calls E3).mono ?_))
    rintro _ w ⟨rfl,K⟩
    have H:=H.app K
    refine⟨_,z,nl ?_⟩
    refine aE E z ?_ ?_<;>intro c4 E
    ·refine rg ?_
     have H:St _ _ _ [_,_,_,_,_,_,_,_]:=H
     refine A_ ?_
     exact(bG (aL (aL (bG (aL ⟨.inl z,ii 2,tk0 z ⟨ba z (ad ai) z,k,_,aI _,E,z,H.Y8 [0,1,2,3,4]⟩⟩)))))
    refine A_ ?_
    have H:St _ _ _ [_,_,_,_,_,_,_,_]:=H
    refine A_ ?_
    refine wu (A_ ?_)
    refine vr (bJ (kz mw z z f_ f_) (v':=.pointer (some ⟨b5,4,none⟩)) z) (vr (bp (l:=[.func (.func 153) #[] #[],ii 1]) o9 (H.Gt 4 z) z z z) (ye (cr pC H (fun b9 w H=>s_ (cy pB H 8 z z z z z z (fun w H=>A_ ?_))))))
    refine vr (bp (l:=[ii a0.1,ii a0.2.1,ii a0.2.2,ii a1]) mm (H.Gt 5 z) z z z) ?_
    obtain⟨x5,E4,E⟩:=ay E
    refine ye (kZ z GO z ((rL.calls E4).mono ?_))
    rintro _ w ⟨rfl,K⟩
    have H:=H.app K
    refine⟨_,z,nl ?_⟩
    refine aE E z ?_ ?_<;>intro c5 E<;>refine A_ ?_
    ·exact(bG (aL (aL (bG (aL ⟨.inl z,ii 1,tk0 z ⟨ba z (ad ai) z,k,_,aI _,E,z,H.Y8 [0,1,2,3,4]⟩⟩)))))
    refine wu (A_ ?_)
    exact⟨.inl z,ii 0,tk0 z ⟨ba z (ad ai) z,k,_,aI _,E,z,H.Y8 [0,1,2,3,4]⟩⟩
   rintro _ w ⟨k2,x3,hk1,E,hv_,H⟩
   have hv_:=hv_.symm
   subst hv_
   unfold dz.j1 at E
   refine vr (az pw z) (s_ (cQ gJ H 1 z z z z z (fun w H=>aK ?_)))
   exact⟨k2,_,_,a_,E,Za,H.Y8 [0,1,2,3]⟩
  refine aA ?_
  exact⟨k,_,_,aI _,E,Za,H⟩
 rintro t w ⟨k1,x2,t1,hk2,E,rfl,H⟩
 unfold dz.j0 at E
 refine A_ ?_
 refine aE E z ?_ ?_<;>intro c6 E
 ·refine aH (vr (bp (l:=[ii a0.1,ii a0.2.1,ii a0.2.2,ii a1]) mm (H.Gt 3 z) z z z) (vr (cf (cs:=[.func (.func 154) #[] #[],ii 1]) pa z) (vr (cf (cs:=[.func (.func 155) #[] #[],ii 2]) pa z) (vr (cf (cs:=[.func (.func 156) #[] #[],ii 3]) pa z) (ye (oO (l:=[.func (.func 154) #[] #[],ii 1,.func (.func 155) #[] #[],ii 2,.func (.func 156) #[] #[],ii 3]) mw H z f_ ⟨z,z,z,z,z,z,z,z,z,acu⟩ f_ (fun b10 w H=>?_)))))))
  refine ye (fZ (fun v w=>∃(k3:Nat)(x6:Int),k3≤k1∧dz.j2 x2 x6=some r∧v=ii x6∧St no w0 w [.blk b1 #[ii a0.1,ii a0.2.1,ii a0.2.2] 24,.blk b2 #[ii x2,ii a2.2] 60,.blk b3 #[ii 0,ii 0] 60,.blk b4 #[ii a0.1,ii a0.2.1,ii a0.2.2,ii a1] 241,.blk b10 #[.func (.func 154) #[] #[],ii 1,.func (.func 155) #[] #[],ii 2,.func (.func 156) #[] #[],ii 3] 245]) ?_ ?_)
  ·refine cm 20 [.agg #[ii a0.1,ii a0.2.1,ii a0.2.2,ii a1],.slice (some ⟨b10,0,none⟩) 3 3] zj func149 z z z z (rg (ye (bc (cs:=#[ii a0.1,ii a0.2.1,ii a0.2.2,ii a1]) H z (fun b11 w H=>A_ ?_))))
   refine vr (bJ (lP zG z) (v':=ii 3) z) (A_ ?_)
   refine se (wu (A_ ?_))
   refine vr (bJ (kz mw z z f_ f_) (v':=pt b10) z) (vr (bp (l:=[.func (.func 154) #[] #[],ii 1]) o9 (H.Gt 4 z) z z z) (ye (cr pC H (fun b12 w H=>s_ (cy pB H 6 z z z z z z (fun w H=>A_ ?_))))))
   refine vr (bp (l:=[ii a0.1,ii a0.2.1,ii a0.2.2,ii a1]) mm (H.Gt 5 z) z z z) ?_
   obtain⟨x8,E5,E⟩:=ay E
   refine ye (kZ z GP z ((rM.calls E5).mono ?_))
   rintro _ w ⟨rfl,K⟩
   have H:=H.app K
   refine⟨_,z,nl ?_⟩
   refine aE E z ?_ ?_<;>intro c7 E
   ·refine rg ?_
    have H:St _ _ _ [_,_,_,_,_,_,_]:=H
    refine A_ ?_
    exact(bG (aL (aL (bG (aL ⟨.inl z,ii 1,tk0 z ⟨ba z (ad ai) z,k1,_,aI _,E,z,H.Y8 [0,1,2,3,4]⟩⟩)))))
   refine A_ ?_
   have H:St _ _ _ [_,_,_,_,_,_,_]:=H
   refine A_ ?_
   refine wu (A_ ?_)
   refine vr (bJ (kz mw z z f_ f_) (v':=.pointer (some ⟨b10,2,none⟩)) z) (vr (bp (l:=[.func (.func 155) #[] #[],ii 2]) o9 (H.Gt 4 z) z z z) (ye (cr pC H (fun b13 w H=>s_ (cy pB H 7 z z z z z z (fun w H=>A_ ?_))))))
   refine vr (bp (l:=[ii a0.1,ii a0.2.1,ii a0.2.2,ii a1]) mm (H.Gt 5 z) z z z) ?_
   obtain⟨x9,E6,E⟩:=ay E
   refine ye (kZ z GQ z ((rN.calls E6).mono ?_))
   rintro _ w ⟨rfl,K⟩
   have H:=H.app K
   refine⟨_,z,nl ?_⟩
   refine aE E z ?_ ?_<;>intro c8 E<;>refine A_ ?_
   ·exact(bG (aL (aL (bG (aL ⟨.inl z,ii 2,tk0 z ⟨ba z (ad ai) z,k1,_,aI _,E,z,H.Y8 [0,1,2,3,4]⟩⟩)))))
   refine wu (A_ ?_)
   refine vr (bJ (kz mw z z f_ f_) (v':=.pointer (some ⟨b10,4,none⟩)) z) (vr (bp (l:=[.func (.func 156) #[] #[],ii 3]) o9 (H.Gt 4 z) z z z) (ye (cr pC H (fun b14 w H=>s_ (cy pB H 8 z z z z z z (fun w H=>A_ ?_))))))
   have H:St _ _ _ [_,_,_,_,_,_,_,_,_]:=H
   refine A_ ?_
   refine vr (bp (l:=[ii a0.1,ii a0.2.1,ii a0.2.2,ii a1]) mm (H.Gt 5 z) z z z) ?_
   obtain⟨x10,E7,E⟩:=ay E
   refine ye (kZ z GR z ((rO.calls E7).mono ?_))
   rintro _ w ⟨rfl,K⟩
   have H:=H.app K
   refine⟨_,z,nl ?_⟩
   refine aE E z ?_ ?_<;>intro c10 E<;>refine A_ ?_
   ·exact(bG (aL (aL (bG (aL ⟨.inl z,ii 3,tk0 z ⟨ba z (ad ai) z,k1,_,aI _,E,z,H.Y8 [0,1,2,3,4]⟩⟩)))))
   refine wu (A_ ?_)
   exact⟨.inl z,ii 0,tk0 z ⟨ba z (ad ai) z,k1,_,aI _,E,z,H.Y8 [0,1,2,3,4]⟩⟩
  rintro _ w ⟨k3,x6,hk3,E,hv_,H⟩
  have hv_:=hv_.symm
  subst hv_
  unfold dz.j2 at E
  refine vr (az mo z) (s_ (cQ gJ H 1 z z z z z (fun w H=>nl (rg (vr (bp (l:=[ii x2,ii x6]) gH (H.Gt 1 z) z z z) (s_ (cy lz H 2 z z z z z z (fun w H=>A_ ?_))))))))
  cases E
  exact⟨.inl z,_,tk0 z ⟨aB z (dL z gH (eG (n:=2) (H.Gt 2 z) z) z (ad ai)),z,H.bs⟩⟩
 refine aA (ab (rg (vr (bp (l:=[ii x2,ii a2.2]) gH (H.Gt 1 z) z z z) (s_ (cy lz H 2 z z z z z z (fun w H=>A_ ?_))))))
 cases E
 exact⟨.inl z,_,tk0 z ⟨aB z (dL z gH (eG (n:=2) (H.Gt 2 z) z) z (ad ai)),z,H.bs⟩⟩
end Go.Proofs.YtmhkpafkadijgaaGreatDoor.Gw
