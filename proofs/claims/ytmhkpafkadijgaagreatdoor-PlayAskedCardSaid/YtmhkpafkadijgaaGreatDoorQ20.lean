/- A part of the proof of Rows.PlayAskedCardSaid; the conditions are that card's own. -/
import Derived.Test.YtmhkpafkadijgaaGreatDoorQ15
import Derived.Test.YtmhkpafkadijgaaGreatDoorQ19
set_option linter.all false
set_option maxRecDepth 100000
set_option maxHeartbeats 4000000
namespace Go.Proofs.YtmhkpafkadijgaaGreatDoor.Gw
open Go Go.RowKit
variable[de]
open Go.IntKind (i8 i16 i32 i64 u8 u16 u32 u64)
open Tryz renaming prog → aa
def jY.f(k:Nat)(a0:Int)(a2:Int×Int×Int)(a3 a4:List Int):Option (List Int×Bool):=bif decide (a0=1)then((jw.f k ((a2.1,a2.2.1,a2.2.2),a3,a4)).bind fun x1=>bif !x1 then(some (([]:List Int),false))else((oI.f k ((a2.1,a2.2.1,a2.2.2),a3,a4)).bind fun x2=>some (x2.1,x2.2)))else(bif decide (a0=2)then((jw.f k ((a2.1,a2.2.1,a2.2.2),a3,a4)).bind fun x3=>bif !x3 then(some (([]:List Int),false))else((oJ.f k ((a2.1,a2.2.1,a2.2.2),a3,a4)).bind fun x4=>some (x4.1,x4.2)))else(bif decide (a0=3)then((jw.f k ((a2.1,a2.2.1,a2.2.2),a3,a4)).bind fun x5=>bif !x5 then(some (([]:List Int),false))else((eY.f k ((a2.1,a2.2.1,a2.2.2),a3,a4)).bind fun x6=>some (x6.1,x6.2)))else(some (([]:List Int),false))))
theorem jY.calls{w0:World}{k:Nat}{f1_:FD}{a0:Int}{a2:Int×Int×Int}{a3 a4:List Int}{v3_ v4_:Value}{r:List Int×Bool}(hf:(Rs.ah f1_).inv w0)(h3:Rd (.of (.int .u8)) w0 (Ol (Rs.ah f1_).fp w0) v3_ a3)(h4:Rd (.of (.int .i64)) w0 (Ol (Rs.ah f1_).fp w0) v4_ a4)(E:jY.f k a0 a2 a3 a4=some r):
 Calls aa 108 #[ii a0,pt f1_.p,.agg #[ii a2.1,ii a2.2.1,ii a2.2.2],v3_,v4_] w0 fun e w'=>∃(u0:Value),e= .returned (.tuple #[u0,.bool r.2])∧St (Rs.ah f1_).fp w0 w' [.ah f1_,.own (.int .u8) 5 u0 r.1]:=by
 have H:=St.start hf
 unfold jY.f at E
 refine aP (N:=43) (args:=[ii a0,pt f1_.p,.agg #[ii a2.1,ii a2.2.1,ii a2.2.2],v3_,v4_]) Tryz.func108 z z (by simp) ?_
 refine rg (ye (bc (cs:=#[ii a2.1,ii a2.2.1,ii a2.2.2]) H z (fun b1 w H=>va sn (va (.bool false) (nl (rg (vm (pt f1_.p) (vr (bp (l:=[ii a2.1,ii a2.2.1,ii a2.2.2]) cv (H.Gt 1 z) z z z) (vm v3_ (vm v4_ ?_))))))))))
 obtain⟨p2,n3,c4,rfl⟩:=eO h3
 obtain⟨p5,n6,c7,rfl⟩:=eO h4
 refine vr (cf (cs:=[pt f1_.p,ii a2.1,ii a2.2.1,ii a2.2.2,(.slice p2 n3 c4),(.slice p5 n6 c7)]) GD (by kernel_rfl)) (ye (cr Il H (fun b8 w H=>s_ (cy Ii H 2 z z z z z z (fun w H=>nl (rg (ye (Ea H (fun b9 w H=>vr (bp (l:=[pt f1_.p,ii a2.1,ii a2.2.1,ii a2.2.2,(.slice p2 n3 c4),(.slice p5 n6 c7)]) jC (H.Gt 2 z) z z z) (vr (cf (cs:=[pt f1_.p,ii a2.1,ii a2.2.1,ii a2.2.2,(.slice p2 n3 c4),(.slice p5 n6 c7)]) GG (by kernel_rfl)) (vr (gw [.agg #[pt f1_.p,ii a2.1,ii a2.2.1,ii a2.2.2,(.slice p2 n3 c4),(.slice p5 n6 c7)]] [] z z) (s_ (xY (v:=.func (.func 169) #[.agg #[pt f1_.p,ii a2.1,ii a2.2.1,ii a2.2.2,(.slice p2 n3 c4),(.slice p5 n6 c7)]] #[]) Tryz.underlying3 Tryz.underlying266 H 3 z z z z (by kernel_rfl) (fun w H=>?_))))))))))))))
 have H:St (Rs.ah f1_).fp w0 _ [.ah f1_,.blk b1 #[ii a2.1,ii a2.2.1,ii a2.2.2] 24,.blk b8 #[pt f1_.p,ii a2.1,ii a2.2.1,ii a2.2.2,(.slice p2 n3 c4),(.slice p5 n6 c7)] 260,.mf b9 [(ii 1,.func (.func 169) #[.agg #[pt f1_.p,ii a2.1,ii a2.2.1,ii a2.2.2,(.slice p2 n3 c4),(.slice p5 n6 c7)]] #[])]]:=H
 refine vr (bp (l:=[pt f1_.p,ii a2.1,ii a2.2.1,ii a2.2.2,(.slice p2 n3 c4),(.slice p5 n6 c7)]) jC (H.Gt 2 z) z z z) (vr (cf (cs:=[pt f1_.p,ii a2.1,ii a2.2.1,ii a2.2.2,(.slice p2 n3 c4),(.slice p5 n6 c7)]) GH (by kernel_rfl)) (vr (gw [.agg #[pt f1_.p,ii a2.1,ii a2.2.1,ii a2.2.2,(.slice p2 n3 c4),(.slice p5 n6 c7)]] [] z z) (s_ (xY (v:=.func (.func 170) #[.agg #[pt f1_.p,ii a2.1,ii a2.2.1,ii a2.2.2,(.slice p2 n3 c4),(.slice p5 n6 c7)]] #[]) Tryz.underlying3 Tryz.underlying266 H 3 z z z z (by kernel_rfl) (fun w H=>vr (bp (l:=[pt f1_.p,ii a2.1,ii a2.2.1,ii a2.2.2,(.slice p2 n3 c4),(.slice p5 n6 c7)]) jC (H.Gt 2 z) z z z) (vr (cf (cs:=[pt f1_.p,ii a2.1,ii a2.2.1,ii a2.2.2,(.slice p2 n3 c4),(.slice p5 n6 c7)]) GI (by kernel_rfl)) (vr (gw [.agg #[pt f1_.p,ii a2.1,ii a2.2.1,ii a2.2.2,(.slice p2 n3 c4),(.slice p5 n6 c7)]] [] z z) (s_ (xY (v:=.func (.func 171) #[.agg #[pt f1_.p,ii a2.1,ii a2.2.1,ii a2.2.2,(.slice p2 n3 c4),(.slice p5 n6 c7)]] #[]) Tryz.underlying3 Tryz.underlying266 H 3 z z z z (by kernel_rfl) (fun w H=>vm (.map (some b9)) (vm (ii a0) ?_)))))))))))
 rcases bR (decide (a0=1))with c1|c1
 ·have E:=iT c1 E
  refine vr (ui Tryz.underlying3 Tryz.underlying266 sT (H.Gt 3 z) z z z (by simp only[List.nil_append,List.cons_append,mJ,c1,cond_true,cond_false])) (vr (sg (.func (.func 169) #[.agg #[pt f1_.p,ii a2.1,ii a2.2.1,ii a2.2.2,(.slice p2 n3 c4),(.slice p5 n6 c7)]] #[]) z) (nl (ae (rg (vr (mv (.func (.func 169) #[.agg #[pt f1_.p,ii a2.1,ii a2.2.1,ii a2.2.2,(.slice p2 n3 c4),(.slice p5 n6 c7)]] #[]) z) (vr (xh Tryz.underlying261 z z z) (vr (mv (.bool false) z) (oo z z (bp (l:=[pt f1_.p,ii a2.1,ii a2.2.1,ii a2.2.2,(.slice p2 n3 c4),(.slice p5 n6 c7)]) jC (H.Gt 2 z) z z z) ?_))))))))
  obtain⟨x1,E1,E⟩:=ay E
  refine dP z z z (au vf z ((jw.calls (H.Gt 0 z) (H.cj 0 z (H.rd h3)) (H.cj 0 z (H.rd h4)) E1).mono ?_))
  rintro _ w ⟨rfl,K⟩
  have H:=H.aV 0 z K
  refine⟨_,z,oo z z (cp z) (vr (pF (.bool (!x1)) z z z) (nl ?_))⟩
  refine aE E z (fun c2 E=>?_) (fun c2 E=>?_)
  ·refine rg (va sn (va (.bool false) (nl (aj ?_))))
   have H:=H.bB (.int .u8) 5
   cases E
   exact(aL ⟨.inl z,_,tk0 z ⟨aB z (ad (ad ai)),_,z,H.bN 0 4 z z z⟩⟩)
  ·refine aA (ab (rg (vm (.func (.func 169) #[.agg #[pt f1_.p,ii a2.1,ii a2.2.1,ii a2.2.2,(.slice p2 n3 c4),(.slice p5 n6 c7)]] #[]) ?_)))
   obtain⟨x2,E2,E⟩:=ay E
   refine ye (qv z G1 z ((oI.calls (H.Gt 0 z) (H.cj 0 z (H.rd h3)) (H.cj 0 z (H.rd h4)) E2).mono ?_))
   rintro _ w ⟨v1,rfl,K⟩
   have H:=H.aV 0 z K
   refine⟨_,z,vr (aX z z) (vr (aX z z) (va v1 (va (.bool x2.2) (nl (aj ?_)))))⟩
   cases E
   exact⟨.inl z,_,tk0 z ⟨aB z (ad (ad ai)),_,z,H.bN 0 4 z z z⟩⟩
 ·have E:=iF c1 E
  rcases bR (decide (a0=2))with c3|c3
  ·have E:=iT c3 E
   refine vr (ui Tryz.underlying3 Tryz.underlying266 sT (H.Gt 3 z) z z z (by simp only[List.nil_append,List.cons_append,mJ,c1,c3,cond_true,cond_false])) (vr (sg (.func (.func 170) #[.agg #[pt f1_.p,ii a2.1,ii a2.2.1,ii a2.2.2,(.slice p2 n3 c4),(.slice p5 n6 c7)]] #[]) z) (nl (ae (rg (vr (mv (.func (.func 170) #[.agg #[pt f1_.p,ii a2.1,ii a2.2.1,ii a2.2.2,(.slice p2 n3 c4),(.slice p5 n6 c7)]] #[]) z) (vr (xh Tryz.underlying261 z z z) (vr (mv (.bool false) z) (oo z z (bp (l:=[pt f1_.p,ii a2.1,ii a2.2.1,ii a2.2.2,(.slice p2 n3 c4),(.slice p5 n6 c7)]) jC (H.Gt 2 z) z z z) ?_))))))))
   obtain⟨x3,E3,E⟩:=ay E
   refine dP z z z (au vf z ((jw.calls (H.Gt 0 z) (H.cj 0 z (H.rd h3)) (H.cj 0 z (H.rd h4)) E3).mono ?_))
   rintro _ w ⟨rfl,K⟩
   have H:=H.aV 0 z K
   refine⟨_,z,oo z z (cp z) (vr (pF (.bool (!x3)) z z z) (nl ?_))⟩
   refine aE E z (fun c5 E=>?_) (fun c5 E=>?_)
   ·refine rg (va sn (va (.bool false) (nl (aj ?_))))
    have H:=H.bB (.int .u8) 5
    cases E
    exact(aL ⟨.inl z,_,tk0 z ⟨aB z (ad (ad ai)),_,z,H.bN 0 4 z z z⟩⟩)
   ·refine aA (ab (rg (vm (.func (.func 170) #[.agg #[pt f1_.p,ii a2.1,ii a2.2.1,ii a2.2.2,(.slice p2 n3 c4),(.slice p5 n6 c7)]] #[]) ?_)))
    obtain⟨x4,E4,E⟩:=ay E
    refine ye (qv z G2 z ((oJ.calls (H.Gt 0 z) (H.cj 0 z (H.rd h3)) (H.cj 0 z (H.rd h4)) E4).mono ?_))
    rintro _ w ⟨v2,rfl,K⟩
    have H:=H.aV 0 z K
    refine⟨_,z,vr (aX z z) (vr (aX z z) (va v2 (va (.bool x4.2) (nl (aj ?_)))))⟩
    cases E
    exact⟨.inl z,_,tk0 z ⟨aB z (ad (ad ai)),_,z,H.bN 0 4 z z z⟩⟩
  ·have E:=iF c3 E
   rcases bR (decide (a0=3))with c6|c6
   ·have E:=iT c6 E
    refine vr (ui Tryz.underlying3 Tryz.underlying266 sT (H.Gt 3 z) z z z (by simp only[List.nil_append,List.cons_append,mJ,c1,c3,c6,cond_true,cond_false])) (vr (sg (.func (.func 171) #[.agg #[pt f1_.p,ii a2.1,ii a2.2.1,ii a2.2.2,(.slice p2 n3 c4),(.slice p5 n6 c7)]] #[]) z) (nl (ae (rg (vr (mv (.func (.func 171) #[.agg #[pt f1_.p,ii a2.1,ii a2.2.1,ii a2.2.2,(.slice p2 n3 c4),(.slice p5 n6 c7)]] #[]) z) (vr (xh Tryz.underlying261 z z z) (vr (mv (.bool false) z) (oo z z (bp (l:=[pt f1_.p,ii a2.1,ii a2.2.1,ii a2.2.2,(.slice p2 n3 c4),(.slice p5 n6 c7)]) jC (H.Gt 2 z) z z z) ?_))))))))
    obtain⟨x5,E5,E⟩:=ay E
    refine dP z z z (au vf z ((jw.calls (H.Gt 0 z) (H.cj 0 z (H.rd h3)) (H.cj 0 z (H.rd h4)) E5).mono ?_))
    rintro _ w ⟨rfl,K⟩
    have H:=H.aV 0 z K
    refine⟨_,z,oo z z (cp z) (vr (pF (.bool (!x5)) z z z) (nl ?_))⟩
    refine aE E z (fun c8 E=>?_) (fun c8 E=>?_)
    ·refine rg (va sn (va (.bool false) (nl (aj ?_))))
     have H:=H.bB (.int .u8) 5
     cases E
     exact(aL ⟨.inl z,_,tk0 z ⟨aB z (ad (ad ai)),_,z,H.bN 0 4 z z z⟩⟩)
    ·refine aA (ab (rg (vm (.func (.func 171) #[.agg #[pt f1_.p,ii a2.1,ii a2.2.1,ii a2.2.2,(.slice p2 n3 c4),(.slice p5 n6 c7)]] #[]) ?_)))
     obtain⟨x6,E6,E⟩:=ay E
     refine ye (qv z G3 z ((eY.calls (H.Gt 0 z) (H.cj 0 z (H.rd h3)) (H.cj 0 z (H.rd h4)) E6).mono ?_))
     rintro _ w ⟨v3,rfl,K⟩
     have H:=H.aV 0 z K
     refine⟨_,z,vr (aX z z) (vr (aX z z) (va v3 (va (.bool x6.2) (nl (aj ?_)))))⟩
     cases E
     exact⟨.inl z,_,tk0 z ⟨aB z (ad (ad ai)),_,z,H.bN 0 4 z z z⟩⟩
   ·have E:=iF c6 E
    refine vr (ui Tryz.underlying3 Tryz.underlying266 sT (H.Gt 3 z) z z z (by simp only[List.nil_append,List.cons_append,mJ,c1,c3,c6,cond_true,cond_false])) (vr (sg (.nilFunc) z) (nl (ae (rg (vr (mv (.nilFunc) z) (vr (Oz Tryz.underlying261 z z z) (vr (mv (.bool true) z) (ow z z (ow z z (ow z z (vr (pT (.bool true) z z z) (nl (cl z (rg (vr (sg sn z) (vr (sg (.bool false) z) (nl (aj ?_))))))))))))))))))
    have H:=H.bB (.int .u8) 5
    cases E
    exact(aL ⟨.inl z,_,tk0 z ⟨aB z (ad (ad ai)),_,z,H.bN 0 4 z z z⟩⟩)
def iK.j0(a0:Int×Int×Int)(a1:List Int)(x1:Int):Option (List Int×Int):=bif !decide (x1=0)then(some (([]:List Int),x1))else((gf.f (a0.1,a0.2.1,a0.2.2)).bind fun x2=>an (decide ((0:Int)≤x2∧x2≤(a1.length:Int))) ((dM.f ((a1.take a1.length).drop x2.toNat)).bind fun x3=>some (x3,0)))
def iK.f(a0:Int×Int×Int)(a1:List Int):Option (List Int×Int):=(dh.f (a0.1,a0.2.1,a0.2.2)).bind fun x1=>bif !(decide (x1=0))then(iK.j0 a0 a1 10)else(bif !(decide ((a1.length:Int)=a0.1))then(iK.j0 a0 a1 12)else(iK.j0 a0 a1 0))
theorem iK.calls{w0:World}{a0:Int×Int×Int}{a1:List Int}{v1_:Value}{r:List Int×Int}(h1:Rd (.of (.int .u8)) w0 (Ol no w0) v1_ a1)(E:iK.f a0 a1=some r):
 Calls aa 173 #[.agg #[ii a0.1,ii a0.2.1,ii a0.2.2],v1_] w0 fun e w'=>∃(u0:Value),e= .returned (.tuple #[u0,.int .u16 r.2])∧St no w0 w' [.own (.int .u8) 5 u0 r.1]:=by
 have H:=St.nil no w0
 unfold iK.f at E
 refine aP (N:=21) (args:=[.agg #[ii a0.1,ii a0.2.1,ii a0.2.2],v1_]) Tryz.func173 z z (by simp) ?_
 obtain⟨k,_⟩:∃k:Nat,k=0:=⟨0,rfl⟩
 refine rg (ye (bc (cs:=#[ii a0.1,ii a0.2.1,ii a0.2.2]) H z (fun b1 w H=>?_)))
 obtain⟨p2,n3,c4,rfl⟩:=eO h1
 refine ye (bc (cs:=#[(.slice p2 n3 c4)]) H z (fun b5 w H=>va sn (va (.int .u16 0) (nl (rg (vr (dt [pt b1] z) (vr (cf (cs:=[.func (.func 227) #[] #[pt b1],.int .u16 10]) sL z) (vr (dt [pt b5,pt b1] z) (vr (cf (cs:=[.func (.func 228) #[] #[pt b5,pt b1],.int .u16 12]) sL z) (ye (oO (l:=[.func (.func 227) #[] #[pt b1],.int .u16 10,.func (.func 228) #[] #[pt b5,pt b1],.int .u16 12]) py H z (by decide) ⟨z,z,z,z,z,z,trivial⟩ (by decide) (fun b6 w H=>?_))))))))))))
 refine ye (fZ (fun v w=>∃(k17:Nat)(x1:Int),k17≤k∧iK.j0 a0 a1 x1=some r∧v= .int .u16 x1∧St no w0 w [.blk b1 #[ii a0.1,ii a0.2.1,ii a0.2.2] 24,.blk b5 #[(.slice p2 n3 c4)] 22,.blk b6 #[.func (.func 227) #[] #[pt b1],.int .u16 10,.func (.func 228) #[] #[pt b5,pt b1],.int .u16 12] 249]) ?_ ?_)
 ·refine(cm 18 [.slice (some ⟨b6,0,none⟩) 2 2] zk Tryz.func157 z z z z (rg (va (.int .u16 0) (nl (ae (rg (vm (.slice (some ⟨b6,0,none⟩) 2 2) (vr (bJ (lP zH z) (v':=ii 2) z) (vm (ii 0) (nl (aG (se (wu (rg (vr (bJ (v':=.bool true) (aZ z z) z) (nl (ae (cl z (aA (ab (ae (aG (rg (vr (bJ (kz py z z (by decide) (by decide)) (v':=pt b6) z) (vr (bp (l:=[.func (.func 227) #[] #[pt b1],.int .u16 10]) sK (H.Gt 2 z) z z z) (ye (cr sU H (fun b2 w H=>s_ (cy sQ H 3 z z z z z z (fun w H=>nl (rg ?_)))))))))))))))))))))))))))))))
  have H:St no w0 _ [.blk b1 #[ii a0.1,ii a0.2.1,ii a0.2.2] 24,.blk b5 #[(.slice p2 n3 c4)] 22,.blk b6 #[.func (.func 227) #[] #[pt b1],.int .u16 10,.func (.func 228) #[] #[pt b5,pt b1],.int .u16 12] 249,.blk b2 #[.func (.func 227) #[] #[pt b1],.int .u16 10] 249]:=H
  refine vr (az sN z) (vr (av q8 z (ak (H.Gt 3 z) z)) (ye (kK 5 [pt b1] z Hg Tryz.func227 z z z z (rg (va (.bool false) (nl (rg (vr (bp (l:=[ii a0.1,ii a0.2.1,ii a0.2.2]) cv (H.Gt 0 z) z z z) ?_))))))))
  obtain⟨x2,E1,E⟩:=ay E
  refine ye (au jF z ((dh.calls E1).mono ?_))
  rintro _ w ⟨rfl,K⟩
  have H:=H.app K
  refine⟨_,z,vr (cg z z) (va (.bool (decide (x2=0))) (nl (aj (⟨.inl z,.bool (decide (x2=0)),tk0 z ⟨ba z (ad ai) z,vr (cp z) (nl ?_)⟩⟩))))⟩
  refine aE E z (fun c1 E=>?_) (fun c1 E=>?_)
  ·refine rg (vr (az sO z) (vr (av sP z (ak (H.Gt 3 z) z)) (va (.int .u16 10) (nl (aj ?_)))))
   exact(bG (aL (aL (bG (aL ⟨.inl z,.int .u16 10,tk0 z ⟨ba z (ad ai) z,k,_,aI _,E,z,H.ag [0,1,2] z z⟩⟩)))))
  ·refine aA (aR (ab (aH (vr (bJ (v':=ii 1) (aO z z) z) (vm (ii 1) (aK (ab (wu (rg (vr (bJ (v':=.bool true) (aZ z z) z) (nl (ae (cl z (aA (ab (ae (aG (rg (vr (bJ (kz py z z (by decide) (by decide)) (v':=.pointer (some ⟨b6,2,none⟩)) z) (vr (bp (l:=[.func (.func 228) #[] #[pt b5,pt b1],.int .u16 12]) sK (H.Gt 2 z) z z z) (ye (cr sU H (fun b3 w H=>s_ (cy sQ H 4 z z z z z z (fun w H=>nl (rg (vr (az sN z) (vr (av q8 z (ak (H.Gt 4 z) z)) (ye (kK 8 [pt b5,pt b1] z Hh Tryz.func228 z z z z (rg (va (.bool false) (nl (rg (vr (av bQ z (ak (H.Gt 1 z) z)) (vr (aY bI (H.rd h1) z) (vr (az eJ z) (vr (av bf z (ak (H.Gt 0 z) z)) (vr (cg z z) (va (.bool (decide ((a1.length:Int)=a0.1))) (nl (aj (⟨.inl z,.bool (decide ((a1.length:Int)=a0.1)),tk0 z ⟨ba z (ad ai) z,(vr (cp z) ?_)⟩⟩)))))))))))))))))))))))))))))))))))))))))))
   refine nl ?_
   refine aE E z (fun c2 E=>?_) (fun c2 E=>?_)
   ·refine rg (vr (az sO z) (vr (av sP z (ak (H.Gt 4 z) z)) (va (.int .u16 12) (nl (aj ?_)))))
    exact(bG (aL (aL (bG (aL ⟨.inl z,.int .u16 12,tk0 z ⟨ba z (ad ai) z,k,_,aI _,E,z,H.ag [0,1,2] z z⟩⟩)))))
   ·refine aA (aR (ab (aH (vr (bJ (v':=ii 2) (aO z z) z) (vm (ii 2) (aK (ab (wu (rg (vr (bJ (v':=.bool false) (aZ z z) z) (nl (ae (bS z (bt (aM (aM (bu (ab (rg (va (.int .u16 0) (nl (aj ?_))))))))))))))))))))))
    exact⟨.inl z,.int .u16 0,tk0 z ⟨ba z (ad ai) z,k,_,aI _,E,z,H.ag [0,1,2] z z⟩⟩
 rintro _ w ⟨k17,x1,hk1,E,hv_,H⟩
 have hv_:=hv_.symm
 subst hv_
 unfold iK.j0 at E
 refine va (.int .u16 x1) (nl (ae (rg (vm (.int .u16 x1) (vr (cx z z) (nl ?_))))))
 refine aE E z (fun c3 E=>?_) (fun c3 E=>?_)
 ·refine rg (vm (.int .u16 x1) (va sn (va (.int .u16 x1) (nl (aj ?_)))))
  have H:=H.bB (.int .u8) 5
  cases E
  exact(aL ⟨.inl z,_,tk0 z ⟨aB z (ad (ad ai)),_,z,H.bA 3 z⟩⟩)
 ·refine aA (ab (ae (cd (ds:=[]) bZ H z z ?_)))
  have H:=H.drew
  refine wz 0 z H (fun w H=>av bQ z (ak (H.Gt 1 z) z)) (wz 1 z H (fun w H=>bp (l:=[ii a0.1,ii a0.2.1,ii a0.2.2]) cv (H.Gt 0 z) z z z) ?_)
  obtain⟨x3,E2,E⟩:=ay E
  refine wo 2 z (au pf z ((gf.calls E2).mono ?_))
  rintro _ w ⟨rfl,K⟩
  have H:=H.app K
  refine⟨_,z,⟨fun _=>H.ag [0,1,2] z z,?_⟩⟩
  obtain⟨⟨g1,g2⟩,E⟩:=ar E
  have p1:x3.toNat≤a1.length:=by omega
  have p3:a1.length≤a1.length:=by omega
  refine wz 3 z (H.ag [0,1,2] z z) (fun w H=>iW aN (H.rd h1) z z g1 g2) ?_
  obtain⟨x4,E3,E⟩:=ay E
  refine wo 4 z (au nD z ((dM.calls (H.arg (Rd.bz (H.rd h1) p1 p3)) E3).mono ?_))
  rintro _ w ⟨v1,rfl,K⟩
  have H:=H.app K
  refine⟨_,z,⟨fun _=>H.ag [0,1,2] z z,wy 5 z (H.ag [0,1,2] z z) (sg v1 z) (wg 6 z (H.ag [0,1,2] z z) (sg (.int .u16 0) z) (wd (ab (aj ?_))))⟩⟩
  cases E
  exact⟨.inl z,_,tk0 z ⟨aB z (ad (ad ai)),_,z,H.bA 3 z⟩⟩
def hJ.l0:Nat→List Int→List Int→List (Int)→Int→Option (List Int)
 |0,_,_,_,_=>none
 |k+1,a0,a1,l1,x1=>bif decide (x1<(((a1.take ((min2 (a0.length:Int) (a1.length:Int)).toNat)).drop 0).length:Int))then(an (decide ((0:Int)≤x1∧x1<(((a1.take ((min2 (a0.length:Int) (a1.length:Int)).toNat)).drop 0).length:Int))) (an (decide ((0:Int)≤x1∧x1<(a0.length:Int))) (bif !decide (at_ 0 a0 x1=at_ 0 ((a1.take ((min2 (a0.length:Int) (a1.length:Int)).toNat)).drop 0) x1)then(an (decide ((l1.length+([x1]).length)*8≤140737488355328)) (hJ.l0 k a0 a1 (l1++([x1])) (i64.wrap (x1+1))))else(hJ.l0 k a0 a1 l1 (i64.wrap (x1+1))))))else(some l1)
def hJ.f(k:Nat)(a0 a1:List Int):Option (List Int):=an (decide ((0:Int)≤min2 (a0.length:Int) (a1.length:Int)∧min2 (a0.length:Int) (a1.length:Int)≤(a1.length:Int))) (hJ.l0 k a0 a1 ([]:List Int) 0)
theorem hJ.calls{w0:World}{k:Nat}{a0 a1:List Int}{v0_ v1_:Value}{r:List Int}(h0:Rd (.of (.int .u8)) w0 (Ol no w0) v0_ a0)(h1:Rd (.of (.int .u8)) w0 (Ol no w0) v1_ a1)(E:hJ.f k a0 a1=some r):
 Calls aa 174 #[v0_,v1_] w0 fun e w'=>∃(u0:Value),e= .returned (u0)∧St no w0 w' [.own (.int .i64) 3 u0 r]:=by
 have H:=St.nil no w0
 unfold hJ.f at E
 refine aP (N:=17) (args:=[v0_,v1_]) Tryz.func174 z z (by simp) ?_
 have H:=H.mk0
 refine rg (va sn (nl (rg (ye (cr Im H (fun b1 w H=>nl (ae (rg (vm v0_ (vm v1_ (ye (cm 6 [v0_,v1_] zr Tryz.func229 z z z z (rg ?_)))))))))))))
 obtain⟨p1,n1,c1,rfl⟩:=eO h0
 refine ye (bc (cs:=#[(.slice p1 n1 c1)]) H z (fun b2 w H=>?_))
 obtain⟨p2,n2,c2,rfl⟩:=eO h1
 refine ye (bc (cs:=#[(.slice p2 n2 c2)]) H z (fun b3 w H=>va (.nilFunc) (nl (rg (vr (dt [pt b3,pt b2] z) (va (.func (.func 281) #[] #[pt b3,pt b2]) (nl (aj (⟨.inl z,.func (.func 281) #[] #[pt b3,pt b2],tk0 z ⟨ba z (ad ai) z,nl (aG (je 33 [pt b3,pt b2] z Tryz.func281 z z z z z H 0 z z (fun v1 b4 o1 w hO1 H=>rg (vr (av bQ z (ak (H.Gt 3 z) z)) (vr (av bQ z (ak (H.Gt 2 z) z)) (vr (aY bI (H.rd h0) z) (vr (av bQ z (ak (H.Gt 3 z) z)) (vr (aY bI (H.rd h1) z) (vr (kA z z) ?_)))))))))⟩⟩)))))))))
 obtain⟨⟨g1,g2⟩,E⟩:=ar E
 have p3:0≤(min2 (a0.length:Int) (a1.length:Int)).toNat:=by omega
 have p4:(min2 (a0.length:Int) (a1.length:Int)).toNat≤a1.length:=by omega
 refine vr (fU aN (H.rd h1) z z g1 g2) (vr (aY bI (Rd.bz (H.rd h1) p3 p4) z) (vm (ii 0) (nl (aG ?_))))
 have H:=H.bB (.int .i64) 3
 refine bx (fun kk t w=>∃(l1:List Int)(x1:Int)(v2:Value)(t1:Fr),kk≤k∧hJ.l0 kk a0 a1 l1 x1=some r∧t=aU t1 [(0,.func (.yield b4) #[] #[]),(2,pt b2),(12,bz (.slice p2 n2 c2) 0 ((min2 (a0.length:Int) (a1.length:Int)).toNat) 1),(13,ii (((a1.take ((min2 (a0.length:Int) (a1.length:Int)).toNat)).drop 0).length:Int)),(14,ii x1),(1000000,undef)]∧St no w0 w [.bO v1,.blk b1 #[v2] 28,.blk b2 #[(.slice p1 n1 c1)] 22,.blk b3 #[(.slice p2 n2 c2)] 22,.obj b4 (.loop o1),.own (.int .i64) 3 v2 l1]) k ?_ ?_
 ·exact⟨_,_,_,_,aI _,E,aD ⟨z,z,z,z,z,z,trivial⟩,H⟩
 rintro kk t w ⟨l1,x1,v2,t1,hk1,E,rfl,H⟩
 obtain⟨k1,rfl⟩|rfl:=ks kk
 rotate_left
 ·cases E
 rw[hJ.l0]at E
 refine rg (vr (aZ z z) (nl (ae ?_)))
 refine aE E z (fun c3 E=>?_) (fun c3 E=>?_)
 ·refine aA (ab (ae (aG (rg (vm (ii x1) ?_)))))
  obtain⟨⟨g3,g4⟩,E⟩:=ar E
  refine vr (bo aN (Rd.bz (H.rd h1) p3 p4) z z g3 g4) (vr (bq bC (Rd.bz (H.rd h1) p3 p4) g3 g4 z) (va (ii x1) (va (iu (at_ 0 ((a1.take ((min2 (a0.length:Int) (a1.length:Int)).toNat)).drop 0) x1)) (nl (rg (vr (av bQ z (ak (H.Gt 2 z) z)) (vm (ii x1) ?_)))))))
  obtain⟨⟨g5,g6⟩,E⟩:=ar E
  refine vr (bo aN (H.rd h0) z z g5 g6) (vr (bq bC (H.rd h0) g5 g6 z) (vm (iu (at_ 0 ((a1.take ((min2 (a0.length:Int) (a1.length:Int)).toNat)).drop 0) x1)) (vr (cx z z) (vm (.bool (!decide (at_ 0 a0 x1=at_ 0 ((a1.take ((min2 (a0.length:Int) (a1.length:Int)).toNat)).drop 0) x1))) ?_))))
  rcases bR (!decide (at_ 0 a0 x1=at_ 0 ((a1.take ((min2 (a0.length:Int) (a1.length:Int)).toNat)).drop 0) x1))with c4|c4
  ·have E:=iT c4 E
   refine oo c4 z (mv (.func (.yield b4) #[] #[]) z) (oo c4 z (mv (ii x1) z) (oo c4 z (mv (iu (at_ 0 ((a1.take ((min2 (a0.length:Int) (a1.length:Int)).toNat)).drop 0) x1)) z) (dP z c4 z (jf [ii x1,iu (at_ 0 ((a1.take ((min2 (a0.length:Int) (a1.length:Int)).toNat)).drop 0) x1)] z z H 4 z hO1 z z (aH (va (ii x1) (aK (yB H 4 z hO1 (fun w H=>aG (aH (vr (av eU z (ak (H.Gt 1 z) z)) (vm (ii x1) (ye (cL (e:=(.int .i64)) (l:=[x1]) gl H z (by decide) ⟨z,z,trivial⟩ (by decide) (fun v3 w H=>?_)))))))))))))))
   obtain⟨g7,E⟩:=ar E
   refine ye (dZ gl H 5 z (ao (H.Gt 6 z)) z z (by omega) (by unfold maxLen;omega) (fun v4 w H=>?_))
   obtain⟨p5,n3,c5,rfl⟩:=bX (H.Gt 5 z)
   refine s_ (cQ vy H 1 z z z z z (fun w H=>aK (aR (yN H 4 z hO1 (fun w H=>oo c4 z (bJ (v':=.bool false) (cp z) z) (vr (pT (.bool false) z z c4) (nl (bS z (aA (aR (ab (aH (vr (aO z z) (vm (ii (i64.wrap (x1+1))) (aK ?_)))))))))))))))
   exact⟨k1,bL _,_,_,_,_,bK hk1,E,aD ⟨z,z,z,z,z,z,trivial⟩,H.ag [0,1,2,3,4,5] z z⟩
  ·have E:=iF c4 E
   refine ow c4 z (ow c4 z (ow c4 z (ow c4 z (ow c4 z (vr (pF (.bool false) z z c4) (nl (bS z (aA (aR (ab (aH (vr (aO z z) (vm (ii (i64.wrap (x1+1))) (aK ?_))))))))))))))
   exact⟨k1,bL _,_,_,_,_,bK hk1,E,aD ⟨z,z,z,z,z,z,trivial⟩,H⟩
 ·refine bt (aM (aM (bu (⟨.inr z,.tuple #[],tk0 z ⟨ba z ai z,ji H 4 z hO1 (fun w H=>aR (ab (rg (vr (av eU z (ak (H.Gt 1 z) z)) (va v2 (nl (aj ?_)))))))⟩⟩))))
  cases E
  exact⟨.inl z,_,gT H 0 z z (fun w H=>⟨aB z (ad ai),_,z,H.bA 5 z⟩)⟩
def iG.j0(k:Nat)(a1 a2:List Int)(x3:List Int×Int)(x9:Int):Option ((List Int×List Int×List Int)×Int):=bif !decide (x9=0)then(some ((([]:List Int),([]:List Int),([]:List Int)),x9))else((dM.f a2).bind fun x1=>(hJ.f k a1 a2).bind fun x2=>some ((x1,x3.1,x2),0))
def iG.f(k:Nat)(a0:Int×Int×Int)(a1 a2:List Int):Option ((List Int×List Int×List Int)×Int):=(iK.f (a0.1,a0.2.1,a0.2.2) a2).bind fun x3=>bif decide (x3.2=0)then(bif !decide ((a1.length:Int)=a0.1)then(iG.j0 k a1 a2 x3 12)else(iG.j0 k a1 a2 x3 x3.2))else(iG.j0 k a1 a2 x3 x3.2)
theorem iG.calls{w0:World}{k:Nat}{a0:Int×Int×Int}{a1 a2:List Int}{v1_ v2_:Value}{r:(List Int×List Int×List Int)×Int}(h1:Rd (.of (.int .u8)) w0 (Ol no w0) v1_ a1)(h2:Rd (.of (.int .u8)) w0 (Ol no w0) v2_ a2)(E:iG.f k a0 a1 a2=some r):
 Calls aa 109 #[.agg #[ii a0.1,ii a0.2.1,ii a0.2.2],v1_,v2_] w0 fun e w'=>∃(u0_0 u0_1 u0_2:Value),e= .returned (.tuple #[.agg #[u0_0,u0_1,u0_2],.int .u16 r.2])∧St no w0 w' [.own (.int .u8) 5 u0_0 r.1.1,.own (.int .u8) 5 u0_1 r.1.2.1,.own (.int .i64) 3 u0_2 r.1.2.2]:=by
 have H:=St.nil no w0
 unfold iG.f at E
 refine aP (N:=36) (args:=[.agg #[ii a0.1,ii a0.2.1,ii a0.2.2],v1_,v2_]) Tryz.func109 z z (by simp) ?_
 refine rg (ye (bc (cs:=#[ii a0.1,ii a0.2.1,ii a0.2.2]) H z (fun b1 w H=>ye (cr vB H (fun b2 w H=>va (.int .u16 0) (nl (rg (vr (bp (l:=[ii a0.1,ii a0.2.1,ii a0.2.2]) cv (H.Gt 0 z) z z z) (vm v2_ ?_)))))))))
 obtain⟨x3,E4,E⟩:=ay E
 refine ye (au G4 z ((iK.calls (H.arg (H.rd h2)) E4).mono ?_))
 rintro _ w ⟨v5,rfl,K⟩
 have H:=H.app K
 refine⟨_,z,vr cz (vr (aX z z) (vr (aX z z) (va v5 (va (.int .u16 x3.2) (nl ?_)))))⟩
 refine cA (fun t w=>∃(k11:Nat)(x9:Int)(t1:Fr),k11≤k∧iG.j0 k11 a1 a2 x3 x9=some r∧t=aU t1 [(1,v1_),(2,v2_),(6,pt b2),(7,.int .u16 0),(8,v5),(9,.int .u16 x9),(1000000,undef)]∧St no w0 w [.blk b1 #[ii a0.1,ii a0.2.1,ii a0.2.2] 24,.blk b2 #[sn,sn,sn] 33,.own (.int .u8) 5 v5 x3.1]) ?_ ?_
 ·refine rg (vm (.int .u16 x3.2) (vr (cg z z) (vm (.bool (decide (x3.2=0))) ?_)))
  rcases bR (decide (x3.2=0))with c1|c1
  ·have E:=iT c1 E
   refine oo c1 z (mv v1_ z) (oo c1 z (aY bI (H.rd h1) z) (oo c1 z (az eJ z) (oo c1 z (av bf z (ak (H.Gt 0 z) z)) (oo c1 z (cx z z) (vr (pT (.bool (!decide ((a1.length:Int)=a0.1))) z z c1) (nl ?_))))))
   refine aE E z (fun c2 E=>?_) (fun c2 E=>?_)
   ·refine aH (va (.int .u16 12) (aK ?_))
    exact⟨k,_,_,aI _,E,aD ⟨z,z,z,z,z,z,z,trivial⟩,H⟩
   ·refine aA ?_
    exact⟨k,_,_,aI _,E,aD ⟨z,z,z,z,z,z,z,trivial⟩,H⟩
  ·have E:=iF c1 E
   refine ow c1 z (ow c1 z (ow c1 z (ow c1 z (ow c1 z (vr (pF (.bool false) z z c1) (nl (bS z (aA ?_))))))))
   exact⟨k,_,_,aI _,E,aD ⟨z,z,z,z,z,z,z,trivial⟩,H⟩
 rintro t w ⟨k11,x9,t1,hk1,E,rfl,H⟩
 unfold iG.j0 at E
 refine ae (rg (vm (.int .u16 x9) (vr (cx z z) (nl ?_))))
 refine aE E z (fun c3 E=>?_) (fun c3 E=>?_)
 ·refine rg (vr (cf (cs:=[sn,sn,sn]) zh z) (vm (.int .u16 x9) (s_ (cy sR H 1 z z z z z z (fun w H=>va (.int .u16 x9) (nl (aj ?_)))))))
  have H:=H.bB (.int .u8) 5
  have H:=H.bB (.int .u8) 5
  have H:=H.bB (.int .i64) 3
  cases E
  exact(aL ⟨.inl z,_,tk0 z ⟨aB z (dL z zf (eG (n:=3) (H.Gt 1 z) z) z (ad ai)),_,_,_,z,H.fJ 3 4 5 z z z z z z⟩⟩)
 ·refine aA (ab (rg (vm v2_ ?_)))
  obtain⟨x1,E1,E⟩:=ay E
  refine ye (au nD z ((dM.calls (H.arg (H.rd h2)) E1).mono ?_))
  rintro _ w ⟨v1,rfl,K⟩
  have H:=H.app K
  refine⟨_,z,vm v5 (vm v1_ (vm v2_ ?_))⟩
  obtain⟨x2,E2,E⟩:=ay E
  refine ye (au G5 z ((hJ.calls (H.arg (H.rd h1)) (H.arg (H.rd h2)) E2).mono ?_))
  rintro _ w ⟨v2,rfl,K⟩
  have H:=H.app K
  refine⟨_,z,?_⟩
  obtain⟨p1,n1,c4,rfl⟩:=bX (H.Gt 3 z)
  obtain⟨p2,n2,c5,rfl⟩:=bX (H.Gt 2 z)
  obtain⟨p3,n3,c6,rfl⟩:=bX (H.Gt 4 z)
  refine vr (cf (cs:=[(.slice p1 n1 c4),(.slice p2 n2 c5),(.slice p3 n3 c6)]) zh z) (s_ (cy sR H 1 z z z z z z (fun w H=>va (.int .u16 0) (nl (aj ?_)))))
  cases E
  exact⟨.inl z,_,tk0 z ⟨aB z (dL z zf (eG (n:=3) (H.Gt 1 z) z) z (ad ai)),_,_,_,z,H.fJ 3 2 4 z z z z z z⟩⟩
def jS.f(a0:Int×Int):Option (Int):=bif decide (a0.1<0)then(some 11)else(bif decide (3<a0.1)then(some 11)else(bif decide (a0.2<0)then(some 11)else(bif decide (3<a0.2)then(some 11)else(some 0))))
theorem jS.calls{w0:World}{a0:Int×Int}{r:Int}(E:jS.f a0=some r):
 Calls aa 69 #[.agg #[ii a0.1,ii a0.2]] w0 fun e w'=>e= .returned (.int .u16 r)∧St no w0 w' []:=by
 have H:=St.nil no w0
 unfold jS.f at E
 refine aP (N:=21) (args:=[.agg #[ii a0.1,ii a0.2]]) Tryz.func69 z z (by simp) ?_
 refine rg (ye (bc (cs:=#[ii a0.1,ii a0.2]) H z (fun b1 w H=>va (.int .u16 0) (nl (ae (rg (vr (az pw z) (vr (av bf z (ak (H.Gt 0 z) z)) (vr (aZ z z) (vm (.bool (decide (a0.1<0))) ?_))))))))))
 rcases bR (decide (a0.1<0))with c2|c2
 ·have E:=iT c2 E
  refine ow c2 z (ow c2 z (ow c2 z (vr (pT (.bool true) z z c2) (vm (.bool true) (ow z z (ow z z (ow z z (vr (pT (.bool true) z z z) (vm (.bool true) (ow z z (ow z z (ow z z (vr (pT (.bool true) z z z) (nl (cl z (rg (va (.int .u16 11) (nl (aj ?_)))))))))))))))))))
  cases E
  exact(aL ⟨.inl z,_,tk0 z ⟨aB z (ad ai),z,H.bs⟩⟩)
 ·have E:=iF c2 E
  refine oo c2 z (az pw z) (oo c2 z (av bf z (ak (H.Gt 0 z) z)) (oo c2 z (dy z z) (vr (pF (.bool (decide (3<a0.1))) z z c2) (vm (.bool (decide (3<a0.1))) ?_))))
  rcases bR (decide (3<a0.1))with c3|c3
  ·have E:=iT c3 E
   refine ow c3 z (ow c3 z (ow c3 z (vr (pT (.bool true) z z c3) (vm (.bool true) (ow z z (ow z z (ow z z (vr (pT (.bool true) z z z) (nl (cl z (rg (va (.int .u16 11) (nl (aj ?_))))))))))))))
   cases E
   exact(aL ⟨.inl z,_,tk0 z ⟨aB z (ad ai),z,H.bs⟩⟩)
  ·have E:=iF c3 E
   refine oo c3 z (az mo z) (oo c3 z (av bf z (ak (H.Gt 0 z) z)) (oo c3 z (aZ z z) (vr (pF (.bool (decide (a0.2<0))) z z c3) (vm (.bool (decide (a0.2<0))) ?_))))
   rcases bR (decide (a0.2<0))with c4|c4
   ·have E:=iT c4 E
    refine ow c4 z (ow c4 z (ow c4 z (vr (pT (.bool true) z z c4) (nl (cl z (rg (va (.int .u16 11) (nl (aj ?_)))))))))
    cases E
    exact(aL ⟨.inl z,_,tk0 z ⟨aB z (ad ai),z,H.bs⟩⟩)
   ·have E:=iF c4 E
    refine oo c4 z (az mo z) (oo c4 z (av bf z (ak (H.Gt 0 z) z)) (oo c4 z (dy z z) (vr (pF (.bool (decide (3<a0.2))) z z c4) (nl ?_))))
    refine aE E z (fun c5 E=>?_) (fun c5 E=>?_)
    ·refine rg (va (.int .u16 11) (nl (aj ?_)))
     cases E
     exact(aL ⟨.inl z,_,tk0 z ⟨aB z (ad ai),z,H.bs⟩⟩)
    ·refine aA (ab (rg (va (.int .u16 0) (nl (aj ?_)))))
     cases E
     exact⟨.inl z,_,tk0 z ⟨aB z (ad ai),z,H.bs⟩⟩
def rJ.f(a0:(Int×Int×Int)×Int):Option (Bool):=some (decide (a0.1.1≤16))
theorem rJ.calls{w0:World}{a0:(Int×Int×Int)×Int}{r:Bool}(E:rJ.f a0=some r):
 Calls aa 150 #[.agg #[ii a0.1.1,ii a0.1.2.1,ii a0.1.2.2,ii a0.2]] w0 fun e w'=>e= .returned (.bool r)∧St no w0 w' []:=by
 have H:=St.nil no w0
 unfold rJ.f at E
 refine aP (N:=7) (args:=[.agg #[ii a0.1.1,ii a0.1.2.1,ii a0.1.2.2,ii a0.2]]) Tryz.func150 z z (by simp) ?_
 refine rg (ye (bc (cs:=#[ii a0.1.1,ii a0.1.2.1,ii a0.1.2.2,ii a0.2]) H z (fun b1 w H=>va (.bool false) (nl (rg (vr (az sM z) (vr (az eJ z) (vr (av bf z (ak (H.Gt 0 z) z)) (vr (gS z z) (va (.bool (decide (a0.1.1≤16))) (nl (aj ?_))))))))))))
 cases E
 exact⟨.inl z,_,tk0 z ⟨aB z (ad ai),z,H.bs⟩⟩
def rK.f(a0:(Int×Int×Int)×Int):Option (Bool):=(gf.f (a0.1.1,a0.1.2.1,a0.1.2.2)).bind fun x2=>some (decide (i64.wrap (Int.tdiv (i64.wrap (x2+1)) 2)≤a0.2))
theorem rK.calls{w0:World}{a0:(Int×Int×Int)×Int}{r:Bool}(E:rK.f a0=some r):
 Calls aa 151 #[.agg #[ii a0.1.1,ii a0.1.2.1,ii a0.1.2.2,ii a0.2]] w0 fun e w'=>e= .returned (.bool r)∧St no w0 w' []:=by
 have H:=St.nil no w0
 unfold rK.f at E
 refine aP (N:=11) (args:=[.agg #[ii a0.1.1,ii a0.1.2.1,ii a0.1.2.2,ii a0.2]]) Tryz.func151 z z (by simp) ?_
 refine rg (ye (bc (cs:=#[ii a0.1.1,ii a0.1.2.1,ii a0.1.2.2,ii a0.2]) H z (fun b1 w H=>va (.bool false) (nl (ae (cd (ds:=[]) bZ H z z ?_))))))
 have H:=H.drew
 refine wg 0 z H (az Ib z) (wz 1 z H (fun w H=>av bf z (ak (H.Gt 0 z) z)) (wg 2 z H (az sM z) (wz 3 z H (fun w H=>bp (l:=[ii a0.1.1,ii a0.1.2.1,ii a0.1.2.2]) cv (H.Gt 0 z) z z z) ?_)))
 obtain⟨x2,E3,E⟩:=ay E
 refine wo 4 z (au pf z ((gf.calls E3).mono ?_))
 rintro _ w ⟨rfl,K⟩
 have H:=H.app K
 refine⟨_,z,⟨fun _=>H.ag [0] z z,wg 5 z (H.ag [0] z z) (aO z z) (wg 6 z (H.ag [0] z z) (ie z z (by decide)) (wg 7 z (H.ag [0] z z) (dq z z) (wg 8 z (H.ag [0] z z) (sg (.bool (decide (i64.wrap (Int.tdiv (i64.wrap (x2+1)) 2)≤a0.2))) z) (wd (ab (aj ?_))))))⟩⟩
 cases E
 exact⟨.inl z,_,tk0 z ⟨aB z (ad ai),z,H.bs⟩⟩
def rL.f(a0:(Int×Int×Int)×Int):Option (Bool):=some true
theorem rL.calls{w0:World}{a0:(Int×Int×Int)×Int}{r:Bool}(E:rL.f a0=some r):
 Calls aa 153 #[.agg #[ii a0.1.1,ii a0.1.2.1,ii a0.1.2.2,ii a0.2]] w0 fun e w'=>e= .returned (.bool r)∧St no w0 w' []:=by
 have H:=St.nil no w0
 unfold rL.f at E
 refine aP (N:=3) (args:=[.agg #[ii a0.1.1,ii a0.1.2.1,ii a0.1.2.2,ii a0.2]]) Tryz.func153 z z (by simp) ?_
 refine rg (ye (bc (cs:=#[ii a0.1.1,ii a0.1.2.1,ii a0.1.2.2,ii a0.2]) H z (fun b1 w H=>va (.bool false) (nl (rg (va (.bool true) (nl (aj ?_))))))))
 cases E
 exact⟨.inl z,_,tk0 z ⟨aB z (ad ai),z,H.bs⟩⟩
def rM.f(a0:(Int×Int×Int)×Int):Option (Bool):=some (decide (64≤a0.1.1))
theorem rM.calls{w0:World}{a0:(Int×Int×Int)×Int}{r:Bool}(E:rM.f a0=some r):
 Calls aa 154 #[.agg #[ii a0.1.1,ii a0.1.2.1,ii a0.1.2.2,ii a0.2]] w0 fun e w'=>e= .returned (.bool r)∧St no w0 w' []:=by
 have H:=St.nil no w0
 unfold rM.f at E
 refine aP (N:=7) (args:=[.agg #[ii a0.1.1,ii a0.1.2.1,ii a0.1.2.2,ii a0.2]]) Tryz.func154 z z (by simp) ?_
 refine rg (ye (bc (cs:=#[ii a0.1.1,ii a0.1.2.1,ii a0.1.2.2,ii a0.2]) H z (fun b1 w H=>va (.bool false) (nl (rg (vr (az sM z) (vr (az eJ z) (vr (av bf z (ak (H.Gt 0 z) z)) (vr (dq z z) (va (.bool (decide (64≤a0.1.1))) (nl (aj ?_))))))))))))
 cases E
 exact⟨.inl z,_,tk0 z ⟨aB z (ad ai),z,H.bs⟩⟩
def rN.f(a0:(Int×Int×Int)×Int):Option (Bool):=some (decide (a0.1.1<16))
theorem rN.calls{w0:World}{a0:(Int×Int×Int)×Int}{r:Bool}(E:rN.f a0=some r):
 Calls aa 155 #[.agg #[ii a0.1.1,ii a0.1.2.1,ii a0.1.2.2,ii a0.2]] w0 fun e w'=>e= .returned (.bool r)∧St no w0 w' []:=by
 have H:=St.nil no w0
 unfold rN.f at E
 refine aP (N:=7) (args:=[.agg #[ii a0.1.1,ii a0.1.2.1,ii a0.1.2.2,ii a0.2]]) Tryz.func155 z z (by simp) ?_
 refine rg (ye (bc (cs:=#[ii a0.1.1,ii a0.1.2.1,ii a0.1.2.2,ii a0.2]) H z (fun b1 w H=>va (.bool false) (nl (rg (vr (az sM z) (vr (az eJ z) (vr (av bf z (ak (H.Gt 0 z) z)) (vr (aZ z z) (va (.bool (decide (a0.1.1<16))) (nl (aj ?_))))))))))))
 cases E
 exact⟨.inl z,_,tk0 z ⟨aB z (ad ai),z,H.bs⟩⟩
def rO.f(a0:(Int×Int×Int)×Int):Option (Bool):=some true
theorem rO.calls{w0:World}{a0:(Int×Int×Int)×Int}{r:Bool}(E:rO.f a0=some r):
 Calls aa 156 #[.agg #[ii a0.1.1,ii a0.1.2.1,ii a0.1.2.2,ii a0.2]] w0 fun e w'=>e= .returned (.bool r)∧St no w0 w' []:=by
 have H:=St.nil no w0
 unfold rO.f at E
 refine aP (N:=3) (args:=[.agg #[ii a0.1.1,ii a0.1.2.1,ii a0.1.2.2,ii a0.2]]) Tryz.func156 z z (by simp) ?_
 refine rg (ye (bc (cs:=#[ii a0.1.1,ii a0.1.2.1,ii a0.1.2.2,ii a0.2]) H z (fun b1 w H=>va (.bool false) (nl (rg (va (.bool true) (nl (aj ?_))))))))
 cases E
 exact⟨.inl z,_,tk0 z ⟨aB z (ad ai),z,H.bs⟩⟩
def dz.j2(x1 x2:Int):Option ((Int×Int)×Int):=some ((x1,x2),0)
def dz.j0(a0:Int×Int×Int)(a1:Int)(a2:Int×Int)(x1:Int):Option ((Int×Int)×Int):=bif decide (a2.2=0)then((rM.f ((a0.1,a0.2.1,a0.2.2),a1)).bind fun x2=>bif x2 then(dz.j2 x1 1)else((rN.f ((a0.1,a0.2.1,a0.2.2),a1)).bind fun x3=>bif x3 then(dz.j2 x1 2)else((rO.f ((a0.1,a0.2.1,a0.2.2),a1)).bind fun x4=>bif x4 then(dz.j2 x1 3)else(dz.j2 x1 0))))else(some ((x1,a2.2),0))
def dz.j1(a0:Int×Int×Int)(a1:Int)(a2:Int×Int)(x1:Int):Option ((Int×Int)×Int):=dz.j0 a0 a1 a2 x1
def dz.f(a0:Int×Int×Int)(a1:Int)(a2:Int×Int):Option ((Int×Int)×Int):=(dh.f (a0.1,a0.2.1,a0.2.2)).bind fun x7=>bif !decide (x7=0)then(some ((0,0),x7))else((jS.f (a2.1,a2.2)).bind fun x1=>bif !decide (x1=0)then(some ((0,0),x1))else(bif decide (a2.1=0)then((rJ.f ((a0.1,a0.2.1,a0.2.2),a1)).bind fun x2=>bif x2 then(dz.j1 a0 a1 a2 3)else((rK.f ((a0.1,a0.2.1,a0.2.2),a1)).bind fun x64=>bif x64 then(dz.j1 a0 a1 a2 2)else((rL.f ((a0.1,a0.2.1,a0.2.2),a1)).bind fun x3=>bif x3 then(dz.j1 a0 a1 a2 1)else(dz.j1 a0 a1 a2 0))))else(dz.j0 a0 a1 a2 a2.1)))
theorem dz.calls{w0:World}{a0:Int×Int×Int}{a1:Int}{a2:Int×Int}{r:(Int×Int)×Int}(E:dz.f a0 a1 a2=some r):
 Calls aa 102 #[.agg #[ii a0.1,ii a0.2.1,ii a0.2.2],ii a1,.agg #[ii a2.1,ii a2.2]] w0 fun e w'=>e= .returned (.tuple #[.agg #[ii r.1.1,ii r.1.2],.int .u16 r.2])∧St no w0 w' []:=by
 have H:=St.nil no w0
 unfold dz.f at E
 refine aP (N:=47) (args:=[.agg #[ii a0.1,ii a0.2.1,ii a0.2.2],ii a1,.agg #[ii a2.1,ii a2.2]]) Tryz.func102 z z (by simp) ?_
 obtain⟨k,_⟩:∃k:Nat,k=0:=⟨0,rfl⟩
 refine rg (ye (bc (cs:=#[ii a0.1,ii a0.2.1,ii a0.2.2]) H z (fun b1 w H=>ye (bc (cs:=#[ii a2.1,ii a2.2]) H z (fun b2 w H=>ye (cr q9 H (fun b3 w H=>va (.int .u16 0) (nl (ae (rg (vr (bp (l:=[ii a0.1,ii a0.2.1,ii a0.2.2]) cv (H.Gt 0 z) z z z) ?_)))))))))))
 obtain⟨x7,E8,E⟩:=ay E
 refine ye (au jF z ((dh.calls E8).mono ?_))
 rintro _ w ⟨rfl,K⟩
 have H:=H.app K
 refine⟨_,z,va (.int .u16 x7) (nl (rg (vm (.int .u16 x7) (vr (cx z z) (nl ?_)))))⟩
 refine aE E z (fun c9 E=>?_) (fun c9 E=>?_)
 ·refine rg (vr (cf (cs:=[ii 0,ii 0]) qT z) (vm (.int .u16 x7) (s_ (cy lz H 2 z z z z z z (fun w H=>?_)))))
  have H:St no w0 _ [.blk b1 #[ii a0.1,ii a0.2.1,ii a0.2.2] 24,.blk b2 #[ii a2.1,ii a2.2] 60,.blk b3 #[ii 0,ii 0] 60]:=H
  refine va (.int .u16 x7) (nl (aj ?_))
  cases E
  exact(aL ⟨.inl z,_,tk0 z ⟨aB z (dL z gH (eG (n:=2) (H.Gt 2 z) z) z (ad ai)),z,H.bs⟩⟩)
 ·refine aA (ab (ae (rg (vr (bp (l:=[ii a2.1,ii a2.2]) gH (H.Gt 1 z) z z z) ?_))))
  obtain⟨x1,E1,E⟩:=ay E
  refine ye (au H9 z ((jS.calls E1).mono ?_))
  rintro _ w ⟨rfl,K⟩
  have H:=H.app K
  refine⟨_,z,?_⟩
  have H:St no w0 _ [.blk b1 #[ii a0.1,ii a0.2.1,ii a0.2.2] 24,.blk b2 #[ii a2.1,ii a2.2] 60,.blk b3 #[ii 0,ii 0] 60]:=H
  refine va (.int .u16 x1) (nl (rg (vm (.int .u16 x1) (vr (cx z z) (nl ?_)))))
  refine aE E z (fun c1 E=>?_) (fun c1 E=>?_)
  ·refine rg (vr (cf (cs:=[ii 0,ii 0]) qT z) (vm (.int .u16 x1) (s_ (cy lz H 2 z z z z z z (fun w H=>va (.int .u16 x1) (nl (aj ?_)))))))
   cases E
   exact(aL ⟨.inl z,_,tk0 z ⟨aB z (dL z gH (eG (n:=2) (H.Gt 2 z) z) z (ad ai)),z,H.bs⟩⟩)
  ·refine aA (ab (rg (vr (bp (l:=[ii a0.1,ii a0.2.1,ii a0.2.2]) cv (H.Gt 0 z) z z z) (vm (ii a1) (vr (cf (cs:=[ii a0.1,ii a0.2.1,ii a0.2.2,ii a1]) GC (by kernel_rfl)) (ye (cr Ik H (fun b4 w H=>s_ (cy Ih H 3 z z z z z z (fun w H=>nl ?_))))))))))
   refine cA (fun t w=>∃(k1:Nat)(x2:Int)(t1:Fr),k1≤k∧dz.j0 a0 a1 a2 x2=some r∧t=aU t1 [(5,pt b2),(6,pt b3),(7,.int .u16 0),(10,pt b4),(1000000,undef)]∧St no w0 w [.blk b1 #[ii a0.1,ii a0.2.1,ii a0.2.2] 24,.blk b2 #[ii x2,ii a2.2] 60,.blk b3 #[ii 0,ii 0] 60,.blk b4 #[ii a0.1,ii a0.2.1,ii a0.2.2,ii a1] 241]) ?_ ?_
   ·refine rg (vr (az pw z) (vr (av bf z (ak (H.Gt 1 z) z)) (vr (cg z z) (nl ?_))))
    refine aE E z (fun c2 E=>?_) (fun c2 E=>?_)
    ·refine aH (vr (bp (l:=[ii a0.1,ii a0.2.1,ii a0.2.2,ii a1]) mm (H.Gt 3 z) z z z) (vr (cf (cs:=[.func (.func 150) #[] #[],ii 3]) pa z) (vr (cf (cs:=[.func (.func 151) #[] #[],ii 2]) pa z) (vr (cf (cs:=[.func (.func 153) #[] #[],ii 1]) pa z) (ye (oO (l:=[.func (.func 150) #[] #[],ii 3,.func (.func 151) #[] #[],ii 2,.func (.func 153) #[] #[],ii 1]) mw H z (by decide) ⟨z,z,z,z,z,z,z,z,z,trivial⟩ (by decide) (fun b5 w H=>?_)))))))
     refine ye (fZ (fun v w=>∃(k2:Nat)(x3:Int),k2≤k∧dz.j1 a0 a1 a2 x3=some r∧v=ii x3∧St no w0 w [.blk b1 #[ii a0.1,ii a0.2.1,ii a0.2.2] 24,.blk b2 #[ii a2.1,ii a2.2] 60,.blk b3 #[ii 0,ii 0] 60,.blk b4 #[ii a0.1,ii a0.2.1,ii a0.2.2,ii a1] 241,.blk b5 #[.func (.func 150) #[] #[],ii 3,.func (.func 151) #[] #[],ii 2,.func (.func 153) #[] #[],ii 1] 245]) ?_ ?_)
     ·refine(cm 20 [.agg #[ii a0.1,ii a0.2.1,ii a0.2.2,ii a1],.slice (some ⟨b5,0,none⟩) 3 3] zj Tryz.func149 z z z z (rg (ye (bc (cs:=#[ii a0.1,ii a0.2.1,ii a0.2.2,ii a1]) H z (fun b6 w H=>va (ii 0) (nl (ae (rg (vm (.slice (some ⟨b5,0,none⟩) 3 3) (vr (bJ (lP zG z) (v':=ii 3) z) (vm (ii 0) (nl (aG (se (wu (rg (vr (bJ (v':=.bool true) (aZ z z) z) (nl (ae (cl z (aA (ab (ae (aG (rg (vr (bJ (kz mw z z (by decide) (by decide)) (v':=pt b5) z) (vr (bp (l:=[.func (.func 150) #[] #[],ii 3]) o9 (H.Gt 4 z) z z z) (ye (cr pC H (fun b7 w H=>?_))))))))))))))))))))))))))))))
      have H:St no w0 _ [.blk b1 #[ii a0.1,ii a0.2.1,ii a0.2.2] 24,.blk b2 #[ii a2.1,ii a2.2] 60,.blk b3 #[ii 0,ii 0] 60,.blk b4 #[ii a0.1,ii a0.2.1,ii a0.2.2,ii a1] 241,.blk b5 #[.func (.func 150) #[] #[],ii 3,.func (.func 151) #[] #[],ii 2,.func (.func 153) #[] #[],ii 1] 245,.blk b6 #[ii a0.1,ii a0.2.1,ii a0.2.2,ii a1] 241,.blk b7 #[.nilFunc,ii 0] 245]:=H
      refine s_ (cy pB H 6 z z z z z z (fun w H=>nl (rg (vr (az pj z) (vr (av px z (ak (H.Gt 6 z) z)) (vr (bp (l:=[ii a0.1,ii a0.2.1,ii a0.2.2,ii a1]) mm (H.Gt 5 z) z z z) ?_))))))
      obtain⟨x4,E2,E⟩:=ay E
      refine ye (kZ z GM z ((rJ.calls E2).mono ?_))
      rintro _ w ⟨rfl,K⟩
      have H:=H.app K
      refine⟨_,z,(nl ?_)⟩
      refine aE E z (fun c3 E=>?_) (fun c3 E=>?_)
      ·refine rg (vr (az pk z) (vr (av bf z (ak (H.Gt 6 z) z)) (va (ii 3) (nl (aj ?_)))))
       exact(bG (aL (aL (bG (aL ⟨.inl z,ii 3,tk0 z ⟨ba z (ad ai) z,k,_,aI _,E,z,H.ag [0,1,2,3,4] z z⟩⟩)))))
      ·refine aA (aR (ab (aH (vr (bJ (v':=ii 1) (aO z z) z) (vm (ii 1) (aK (ab (wu (rg (vr (bJ (v':=.bool true) (aZ z z) z) (nl (ae (cl z (aA (ab (ae (aG (rg (vr (bJ (kz mw z z (by decide) (by decide)) (v':=.pointer (some ⟨b5,2,none⟩)) z) (vr (bp (l:=[.func (.func 151) #[] #[],ii 2]) o9 (H.Gt 4 z) z z z) (ye (cr pC H (fun b8 w H=>s_ (cy pB H 7 z z z z z z (fun w H=>nl (rg (vr (az pj z) (vr (av px z (ak (H.Gt 7 z) z)) (vr (bp (l:=[ii a0.1,ii a0.2.1,ii a0.2.2,ii a1]) mm (H.Gt 5 z) z z z) ?_)))))))))))))))))))))))))))))
       obtain⟨x64,E3,E⟩:=ay E
       refine ye (kZ z GN z ((rK.calls E3).mono ?_))
       rintro _ w ⟨rfl,K⟩
       have H:=H.app K
       refine⟨_,z,(nl ?_)⟩
       refine aE E z (fun c4 E=>?_) (fun c4 E=>?_)
       ·refine rg ?_
        have H:St no w0 _ [.blk b1 #[ii a0.1,ii a0.2.1,ii a0.2.2] 24,.blk b2 #[ii a2.1,ii a2.2] 60,.blk b3 #[ii 0,ii 0] 60,.blk b4 #[ii a0.1,ii a0.2.1,ii a0.2.2,ii a1] 241,.blk b5 #[.func (.func 150) #[] #[],ii 3,.func (.func 151) #[] #[],ii 2,.func (.func 153) #[] #[],ii 1] 245,.blk b6 #[ii a0.1,ii a0.2.1,ii a0.2.2,ii a1] 241,.blk b7 #[.func (.func 150) #[] #[],ii 3] 245,.blk b8 #[.func (.func 151) #[] #[],ii 2] 245]:=H
        refine vr (az pk z) (vr (av bf z (ak (H.Gt 7 z) z)) (va (ii 2) (nl (aj ?_))))
        exact(bG (aL (aL (bG (aL ⟨.inl z,ii 2,tk0 z ⟨ba z (ad ai) z,k,_,aI _,E,z,H.ag [0,1,2,3,4] z z⟩⟩)))))
       ·refine aA (aR (ab (aH ?_)))
        have H:St no w0 _ [.blk b1 #[ii a0.1,ii a0.2.1,ii a0.2.2] 24,.blk b2 #[ii a2.1,ii a2.2] 60,.blk b3 #[ii 0,ii 0] 60,.blk b4 #[ii a0.1,ii a0.2.1,ii a0.2.2,ii a1] 241,.blk b5 #[.func (.func 150) #[] #[],ii 3,.func (.func 151) #[] #[],ii 2,.func (.func 153) #[] #[],ii 1] 245,.blk b6 #[ii a0.1,ii a0.2.1,ii a0.2.2,ii a1] 241,.blk b7 #[.func (.func 150) #[] #[],ii 3] 245,.blk b8 #[.func (.func 151) #[] #[],ii 2] 245]:=H
        refine vr (bJ (v':=ii 2) (aO z z) z) (vm (ii 2) (aK (ab (wu (rg (vr (bJ (v':=.bool true) (aZ z z) z) (nl (ae (cl z (aA (ab (ae (aG (rg (vr (bJ (kz mw z z (by decide) (by decide)) (v':=.pointer (some ⟨b5,4,none⟩)) z) (vr (bp (l:=[.func (.func 153) #[] #[],ii 1]) o9 (H.Gt 4 z) z z z) (ye (cr pC H (fun b9 w H=>s_ (cy pB H 8 z z z z z z (fun w H=>nl (rg (vr (az pj z) (vr (av px z (ak (H.Gt 8 z) z)) (vr (bp (l:=[ii a0.1,ii a0.2.1,ii a0.2.2,ii a1]) mm (H.Gt 5 z) z z z) ?_)))))))))))))))))))))))))
        obtain⟨x5,E4,E⟩:=ay E
        refine ye (kZ z GO z ((rL.calls E4).mono ?_))
        rintro _ w ⟨rfl,K⟩
        have H:=H.app K
        refine⟨_,z,(nl ?_)⟩
        refine aE E z (fun c5 E=>?_) (fun c5 E=>?_)
        ·refine rg (vr (az pk z) (vr (av bf z (ak (H.Gt 8 z) z)) (va (ii 1) (nl (aj ?_)))))
         exact(bG (aL (aL (bG (aL ⟨.inl z,ii 1,tk0 z ⟨ba z (ad ai) z,k,_,aI _,E,z,H.ag [0,1,2,3,4] z z⟩⟩)))))
        ·refine aA (aR (ab (aH (vr (bJ (v':=ii 3) (aO z z) z) (vm (ii 3) (aK (ab (wu (rg (vr (bJ (v':=.bool false) (aZ z z) z) (nl (ae (bS z (bt (aM (aM (bu (ab (rg (va (ii 0) (nl (aj ?_))))))))))))))))))))))
         exact⟨.inl z,ii 0,tk0 z ⟨ba z (ad ai) z,k,_,aI _,E,z,H.ag [0,1,2,3,4] z z⟩⟩
     rintro _ w ⟨k2,x3,hk1,E,hv_,H⟩
     have hv_:=hv_.symm
     subst hv_
     unfold dz.j1 at E
     refine vr (az pw z) (s_ (cQ gJ H 1 z z z z z (fun w H=>aK ?_)))
     exact⟨k2,_,_,by omega,E,aD ⟨z,z,z,z,z,trivial⟩,H.ag [0,1,2,3] z z⟩
    ·refine aA ?_
     exact⟨k,_,_,aI _,E,aD ⟨z,z,z,z,z,trivial⟩,H⟩
   rintro t w ⟨k1,x2,t1,hk2,E,rfl,H⟩
   unfold dz.j0 at E
   refine ae (rg (vr (az mo z) (vr (av bf z (ak (H.Gt 1 z) z)) (vr (cg z z) (nl ?_)))))
   refine aE E z (fun c6 E=>?_) (fun c6 E=>?_)
   ·refine aH (vr (bp (l:=[ii a0.1,ii a0.2.1,ii a0.2.2,ii a1]) mm (H.Gt 3 z) z z z) (vr (cf (cs:=[.func (.func 154) #[] #[],ii 1]) pa z) (vr (cf (cs:=[.func (.func 155) #[] #[],ii 2]) pa z) (vr (cf (cs:=[.func (.func 156) #[] #[],ii 3]) pa z) (ye (oO (l:=[.func (.func 154) #[] #[],ii 1,.func (.func 155) #[] #[],ii 2,.func (.func 156) #[] #[],ii 3]) mw H z (by decide) ⟨z,z,z,z,z,z,z,z,z,trivial⟩ (by decide) (fun b10 w H=>?_)))))))
    refine ye (fZ (fun v w=>∃(k3:Nat)(x6:Int),k3≤k1∧dz.j2 x2 x6=some r∧v=ii x6∧St no w0 w [.blk b1 #[ii a0.1,ii a0.2.1,ii a0.2.2] 24,.blk b2 #[ii x2,ii a2.2] 60,.blk b3 #[ii 0,ii 0] 60,.blk b4 #[ii a0.1,ii a0.2.1,ii a0.2.2,ii a1] 241,.blk b10 #[.func (.func 154) #[] #[],ii 1,.func (.func 155) #[] #[],ii 2,.func (.func 156) #[] #[],ii 3] 245]) ?_ ?_)
    ·refine(cm 20 [.agg #[ii a0.1,ii a0.2.1,ii a0.2.2,ii a1],.slice (some ⟨b10,0,none⟩) 3 3] zj Tryz.func149 z z z z (rg (ye (bc (cs:=#[ii a0.1,ii a0.2.1,ii a0.2.2,ii a1]) H z (fun b11 w H=>va (ii 0) (nl (ae (rg (vm (.slice (some ⟨b10,0,none⟩) 3 3) (vr (bJ (lP zG z) (v':=ii 3) z) (vm (ii 0) (nl (aG (se (wu (rg (vr (bJ (v':=.bool true) (aZ z z) z) (nl (ae (cl z (aA (ab (ae (aG (rg (vr (bJ (kz mw z z (by decide) (by decide)) (v':=pt b10) z) (vr (bp (l:=[.func (.func 154) #[] #[],ii 1]) o9 (H.Gt 4 z) z z z) (ye (cr pC H (fun b12 w H=>s_ (cy pB H 6 z z z z z z (fun w H=>nl (rg (vr (az pj z) (vr (av px z (ak (H.Gt 6 z) z)) (vr (bp (l:=[ii a0.1,ii a0.2.1,ii a0.2.2,ii a1]) mm (H.Gt 5 z) z z z) ?_))))))))))))))))))))))))))))))))))))
     obtain⟨x8,E5,E⟩:=ay E
     refine ye (kZ z GP z ((rM.calls E5).mono ?_))
     rintro _ w ⟨rfl,K⟩
     have H:=H.app K
     refine⟨_,z,(nl ?_)⟩
     refine aE E z (fun c7 E=>?_) (fun c7 E=>?_)
     ·refine rg ?_
      have H:St no w0 _ [.blk b1 #[ii a0.1,ii a0.2.1,ii a0.2.2] 24,.blk b2 #[ii x2,ii a2.2] 60,.blk b3 #[ii 0,ii 0] 60,.blk b4 #[ii a0.1,ii a0.2.1,ii a0.2.2,ii a1] 241,.blk b10 #[.func (.func 154) #[] #[],ii 1,.func (.func 155) #[] #[],ii 2,.func (.func 156) #[] #[],ii 3] 245,.blk b11 #[ii a0.1,ii a0.2.1,ii a0.2.2,ii a1] 241,.blk b12 #[.func (.func 154) #[] #[],ii 1] 245]:=H
      refine vr (az pk z) (vr (av bf z (ak (H.Gt 6 z) z)) (va (ii 1) (nl (aj ?_))))
      exact(bG (aL (aL (bG (aL ⟨.inl z,ii 1,tk0 z ⟨ba z (ad ai) z,k1,_,aI _,E,z,H.ag [0,1,2,3,4] z z⟩⟩)))))
     ·refine aA (aR (ab (aH ?_)))
      have H:St no w0 _ [.blk b1 #[ii a0.1,ii a0.2.1,ii a0.2.2] 24,.blk b2 #[ii x2,ii a2.2] 60,.blk b3 #[ii 0,ii 0] 60,.blk b4 #[ii a0.1,ii a0.2.1,ii a0.2.2,ii a1] 241,.blk b10 #[.func (.func 154) #[] #[],ii 1,.func (.func 155) #[] #[],ii 2,.func (.func 156) #[] #[],ii 3] 245,.blk b11 #[ii a0.1,ii a0.2.1,ii a0.2.2,ii a1] 241,.blk b12 #[.func (.func 154) #[] #[],ii 1] 245]:=H
      refine vr (bJ (v':=ii 1) (aO z z) z) (vm (ii 1) (aK (ab (wu (rg (vr (bJ (v':=.bool true) (aZ z z) z) (nl (ae (cl z (aA (ab (ae (aG (rg (vr (bJ (kz mw z z (by decide) (by decide)) (v':=.pointer (some ⟨b10,2,none⟩)) z) (vr (bp (l:=[.func (.func 155) #[] #[],ii 2]) o9 (H.Gt 4 z) z z z) (ye (cr pC H (fun b13 w H=>s_ (cy pB H 7 z z z z z z (fun w H=>nl (rg (vr (az pj z) (vr (av px z (ak (H.Gt 7 z) z)) (vr (bp (l:=[ii a0.1,ii a0.2.1,ii a0.2.2,ii a1]) mm (H.Gt 5 z) z z z) ?_)))))))))))))))))))))))))
      obtain⟨x9,E6,E⟩:=ay E
      refine ye (kZ z GQ z ((rN.calls E6).mono ?_))
      rintro _ w ⟨rfl,K⟩
      have H:=H.app K
      refine⟨_,z,(nl ?_)⟩
      refine aE E z (fun c8 E=>?_) (fun c8 E=>?_)
      ·refine rg (vr (az pk z) (vr (av bf z (ak (H.Gt 7 z) z)) (va (ii 2) (nl (aj ?_)))))
       exact(bG (aL (aL (bG (aL ⟨.inl z,ii 2,tk0 z ⟨ba z (ad ai) z,k1,_,aI _,E,z,H.ag [0,1,2,3,4] z z⟩⟩)))))
      ·refine aA (aR (ab (aH (vr (bJ (v':=ii 2) (aO z z) z) (vm (ii 2) (aK (ab (wu (rg (vr (bJ (v':=.bool true) (aZ z z) z) (nl (ae (cl z (aA (ab (ae (aG (rg (vr (bJ (kz mw z z (by decide) (by decide)) (v':=.pointer (some ⟨b10,4,none⟩)) z) (vr (bp (l:=[.func (.func 156) #[] #[],ii 3]) o9 (H.Gt 4 z) z z z) (ye (cr pC H (fun b14 w H=>s_ (cy pB H 8 z z z z z z (fun w H=>nl (rg ?_))))))))))))))))))))))))))
       have H:St no w0 _ [.blk b1 #[ii a0.1,ii a0.2.1,ii a0.2.2] 24,.blk b2 #[ii x2,ii a2.2] 60,.blk b3 #[ii 0,ii 0] 60,.blk b4 #[ii a0.1,ii a0.2.1,ii a0.2.2,ii a1] 241,.blk b10 #[.func (.func 154) #[] #[],ii 1,.func (.func 155) #[] #[],ii 2,.func (.func 156) #[] #[],ii 3] 245,.blk b11 #[ii a0.1,ii a0.2.1,ii a0.2.2,ii a1] 241,.blk b12 #[.func (.func 154) #[] #[],ii 1] 245,.blk b13 #[.func (.func 155) #[] #[],ii 2] 245,.blk b14 #[.func (.func 156) #[] #[],ii 3] 245]:=H
       refine vr (az pj z) (vr (av px z (ak (H.Gt 8 z) z)) (vr (bp (l:=[ii a0.1,ii a0.2.1,ii a0.2.2,ii a1]) mm (H.Gt 5 z) z z z) ?_))
       obtain⟨x10,E7,E⟩:=ay E
       refine ye (kZ z GR z ((rO.calls E7).mono ?_))
       rintro _ w ⟨rfl,K⟩
       have H:=H.app K
       refine⟨_,z,(nl ?_)⟩
       refine aE E z (fun c10 E=>?_) (fun c10 E=>?_)
       ·refine rg (vr (az pk z) (vr (av bf z (ak (H.Gt 8 z) z)) (va (ii 3) (nl (aj ?_)))))
        exact(bG (aL (aL (bG (aL ⟨.inl z,ii 3,tk0 z ⟨ba z (ad ai) z,k1,_,aI _,E,z,H.ag [0,1,2,3,4] z z⟩⟩)))))
       ·refine aA (aR (ab (aH (vr (bJ (v':=ii 3) (aO z z) z) (vm (ii 3) (aK (ab (wu (rg (vr (bJ (v':=.bool false) (aZ z z) z) (nl (ae (bS z (bt (aM (aM (bu (ab (rg (va (ii 0) (nl (aj ?_))))))))))))))))))))))
        exact⟨.inl z,ii 0,tk0 z ⟨ba z (ad ai) z,k1,_,aI _,E,z,H.ag [0,1,2,3,4] z z⟩⟩
    rintro _ w ⟨k3,x6,hk3,E,hv_,H⟩
    have hv_:=hv_.symm
    subst hv_
    unfold dz.j2 at E
    refine vr (az mo z) (s_ (cQ gJ H 1 z z z z z (fun w H=>nl (rg (vr (bp (l:=[ii x2,ii x6]) gH (H.Gt 1 z) z z z) (s_ (cy lz H 2 z z z z z z (fun w H=>va (.int .u16 0) (nl (aj ?_))))))))))
    cases E
    exact⟨.inl z,_,tk0 z ⟨aB z (dL z gH (eG (n:=2) (H.Gt 2 z) z) z (ad ai)),z,H.bs⟩⟩
   ·refine aA (ab (rg (vr (bp (l:=[ii x2,ii a2.2]) gH (H.Gt 1 z) z z z) (s_ (cy lz H 2 z z z z z z (fun w H=>va (.int .u16 0) (nl (aj ?_))))))))
    cases E
    exact⟨.inl z,_,tk0 z ⟨aB z (dL z gH (eG (n:=2) (H.Gt 2 z) z) z (ad ai)),z,H.bs⟩⟩
end Go.Proofs.YtmhkpafkadijgaaGreatDoor.Gw
