/- A part of the proof of Rows.PlayAskedCardSaid; the conditions are that card's own. -/
import Derived.Test.YtmhkpafkadijgaaGreatDoorQ14
set_option linter.all false
set_option maxRecDepth 100000
set_option maxHeartbeats 4000000
namespace Go.Proofs.YtmhkpafkadijgaaGreatDoor.Gw
open Go Go.RowKit
variable[de]
open Go.IntKind (i8 i16 i32 i64 u8 u16 u32 u64)
open Tryz renaming prog → aa
def kH.f(k:Nat)(a0:(Int×Int×Int)×List Int×List Int)(a1 a2:List Int):Option (List Int×Bool):=(cE.f k (a0.1.1,a0.1.2.1,a0.1.2.2) a2).bind fun x2=>(eu.f k (a0.1.1,a0.1.2.1,a0.1.2.2) a1 a2 x2).bind fun x5=>bif !x5.2 then(some (([]:List Int),false))else((fD.f k a0.2.1 x2 x5.1).bind fun x1=>(lr.f k (a0.1.1,a0.1.2.1,a0.1.2.2) a0.2.1 a0.2.2 x1).bind fun x3=>bif !x3 then(some (([]:List Int),false))else(some (x1,true)))
theorem kH.calls{w0:World}{k:Nat}{F_:FD}{a0:(Int×Int×Int)×List Int×List Int}{a1 a2:List Int}{v0_4_ v0_5_ v1_ v2_:Value}{r:List Int×Bool}(hf:(Rs.ah F_).inv w0)(h0_4:Rd (.of (.int .u8)) w0 (Ol (Rs.ah F_).fp w0) v0_4_ a0.2.1)(h0_5:Rd (.of (.int .i64)) w0 (Ol (Rs.ah F_).fp w0) v0_5_ a0.2.2)(h1:Rd (.of (.int .u8)) w0 (Ol (Rs.ah F_).fp w0) v1_ a1)(h2:Rd (.of (.int .u8)) w0 (Ol (Rs.ah F_).fp w0) v2_ a2)(E:kH.f k a0 a1 a2=some r):
 Calls aa 218 #[.agg #[pt F_.p,ii a0.1.1,ii a0.1.2.1,ii a0.1.2.2,v0_4_,v0_5_],v1_,v2_] w0 fun e w'=>∃(u0:Value),e= .returned (.tuple #[u0,.bool r.2])∧St (Rs.ah F_).fp w0 w' [.ah F_,.own (.int .u8) 5 u0 r.1]:=by
 have H:=St.start hf
 unfold kH.f at E
 refine aP (N:=39) (args:=[.agg #[pt F_.p,ii a0.1.1,ii a0.1.2.1,ii a0.1.2.2,v0_4_,v0_5_],v1_,v2_]) Tryz.func218 z z (by simp) ?_
 refine rg (ye (bc (cs:=#[pt F_.p,ii a0.1.1,ii a0.1.2.1,ii a0.1.2.2,v0_4_,v0_5_]) H z (fun b1 w H=>va sn (va (.bool false) (nl (rg (vr (az gh z) (vr (av dk z (ak (H.Gt 1 z) z)) (vr (az km z) (vr (bp (l:=[ii a0.1.1,ii a0.1.2.1,ii a0.1.2.2]) cv (H.Gt 1 z) z z z) (vm v2_ ?_)))))))))))
 obtain⟨x2,E3,E⟩:=ay E
 refine ye (au Ho z ((cE.calls (H.Gt 0 z) (H.cj 0 z (H.rd h2)) E3).mono ?_))
 rintro _ w ⟨v4,rfl,K⟩
 have H:=H.aV 0 z K
 refine⟨_,z,va v4 (nl (rg (vr (az gh z) (vr (av dk z (ak (H.Gt 1 z) z)) (vr (az km z) (vr (bp (l:=[ii a0.1.1,ii a0.1.2.1,ii a0.1.2.2]) cv (H.Gt 1 z) z z z) (vm v1_ (vm v2_ (vm v4 ?_)))))))))⟩
 obtain⟨x5,E6,E⟩:=ay E
 refine ye (au Hp z ((eu.calls (H.Gt 0 z) (H.cj 0 z (H.rd h1)) (H.cj 0 z (H.rd h2)) (H.cb 2 0 z z z (ao (H.Gt 2 z))) E6).mono ?_))
 rintro _ w ⟨v7,rfl,K⟩
 have H:=H.aV 0 z K
 refine⟨_,z,vr cz (vr (aX z z) (vr (aX z z) (va v7 (va (.bool x5.2) (nl (ae (rg (vm (.bool x5.2) (vr (cp z) (nl ?_))))))))))⟩
 refine aE E z (fun c9 E=>?_) (fun c9 E=>?_)
 ·refine rg (va sn (va (.bool false) (nl (aj ?_))))
  have H:=H.bB (.int .u8) 5
  cases E
  exact(aL ⟨.inl z,_,tk0 z ⟨aB z (ad (ad ai)),_,z,H.bN 0 4 z z z⟩⟩)
 ·refine aA (ab (ae (cd (ds:=[]) bZ H z z ?_)))
  have H:=H.drew
  refine wz 0 z H (fun w H=>bp (l:=[pt F_.p,ii a0.1.1,ii a0.1.2.1,ii a0.1.2.2,v0_4_,v0_5_]) jC (H.Gt 1 z) z z z) (wg 1 z H (az pn z) (wz 2 z H (fun w H=>av bQ z (ak (H.Gt 1 z) z)) (wm 3 z H v4 (wm 4 z H v7 ?_))))
  obtain⟨x1,E1,E⟩:=ay E
  refine wo 5 z (au Hq z ((fD.calls (H.arg (H.rd h0_4)) (H.own 2 z (ao (H.Gt 2 z))) (H.own 3 z (ao (H.Gt 3 z))) E1).mono ?_))
  rintro _ w ⟨v1,rfl,K⟩
  have H:=H.app K
  refine⟨_,z,⟨fun _=>H.ag [0,1,2,3] z z,wo 6 z (cm 18 [.agg #[pt F_.p,ii a0.1.1,ii a0.1.2.1,ii a0.1.2.2,v0_4_,v0_5_],v1] zq Tryz.func225 z z z z (rg (ye (bc (cs:=#[pt F_.p,ii a0.1.1,ii a0.1.2.1,ii a0.1.2.2,v0_4_,v0_5_]) H z (fun b2 w H=>?_)))))⟩⟩
  have H:St (Rs.ah F_).fp w0 _ [.ah F_,.blk b1 #[pt F_.p,ii a0.1.1,ii a0.1.2.1,ii a0.1.2.2,v0_4_,v0_5_] 260,.own (.int .i64) 3 v4 x2,.own (.int .u8) 5 v7 x5.1,.own (.int .u8) 5 v1 x1,.blk b2 #[pt F_.p,ii a0.1.1,ii a0.1.2.1,ii a0.1.2.2,v0_4_,v0_5_] 260]:=H
  refine va sn (va (.bool false) (nl (ae (rg (vr (az gh z) (vr (av dk z (ak (H.Gt 5 z) z)) (vr (az km z) (vr (bp (l:=[ii a0.1.1,ii a0.1.2.1,ii a0.1.2.2]) cv (H.Gt 5 z) z z z) (vr (az pn z) (vr (av bQ z (ak (H.Gt 5 z) z)) (vr (az mn z) (vr (av eU z (ak (H.Gt 5 z) z)) (vm v1 ?_)))))))))))))
  obtain⟨x3,E2,E⟩:=ay E
  refine ye (au zw z ((lr.calls (H.Gt 0 z) (H.cj 0 z (H.rd h0_4)) (H.cj 0 z (H.rd h0_5)) (H.cb 4 0 z z z (ao (H.Gt 4 z))) E2).mono ?_))
  rintro _ w ⟨rfl,K⟩
  have H:=H.aV 0 z K
  refine⟨_,z,vr (cp z) (nl ?_)⟩
  refine aE E z (fun c1 E=>?_) (fun c1 E=>?_)
  ·refine rg (va sn (va (.bool false) (nl (aj (aL ⟨.inl z,.tuple #[sn,.bool false],tk0 z ⟨ba z (ad (ad ai)) z,(⟨fun _=>H.ag [0,1,2,3] z z,wg 7 z (H.ag [0,1,2,3] z z) (aX z z) (wg 8 z (H.ag [0,1,2,3] z z) (aX z z) (wg 9 z (H.ag [0,1,2,3] z z) (sg sn z) (wg 10 z (H.ag [0,1,2,3] z z) (sg (.bool false) z) (wd (ab (aj ?_))))))⟩)⟩⟩)))))
   have H:=H.bB (.int .u8) 5
   cases E
   exact⟨.inl z,_,tk0 z ⟨aB z (ad (ad ai)),_,z,H.bN 0 6 z z z⟩⟩
  ·refine aA (ab (rg (vm v1 (va v1 (va (.bool true) (nl (aj (⟨.inl z,.tuple #[v1,.bool true],tk0 z ⟨ba z (ad (ad ai)) z,(⟨fun _=>H.ag [0,1,2,3] z z,wg 7 z (H.ag [0,1,2,3] z z) (aX z z) (wg 8 z (H.ag [0,1,2,3] z z) (aX z z) (wy 9 z (H.ag [0,1,2,3] z z) (sg v1 z) (wg 10 z (H.ag [0,1,2,3] z z) (sg (.bool true) z) (wd (ab (aj ?_))))))⟩)⟩⟩))))))))
   cases E
   exact⟨.inl z,_,tk0 z ⟨aB z (ad (ad ai)),_,z,H.bN 0 4 z z z⟩⟩
def qf.f(k:Nat)(a0:List Int)(a1:Int):Option (List Int):=an (decide ((0:Int)≤max2 0 (min2 a1 (a0.length:Int))∧max2 0 (min2 a1 (a0.length:Int))≤(a0.length:Int))) ((cX.f k ((a0.take ((max2 0 (min2 a1 (a0.length:Int))).toNat)).drop 0)).bind fun x6=>some x6)
theorem qf.calls{w0:World}{k:Nat}{a0:List Int}{a1:Int}{v0_:Value}{r:List Int}(h0:Rd (.of (.int .u8)) w0 (Ol no w0) v0_ a0)(E:qf.f k a0 a1=some r):
 Calls aa 268 #[v0_,ii a1] w0 fun e w'=>∃(u0:Value),e= .returned (u0)∧St no w0 w' [.own (.int .u8) 5 u0 r]:=by
 have H:=St.nil no w0
 unfold qf.f at E
 refine aP (N:=13) (args:=[v0_,ii a1]) Tryz.func268 z z (by simp) ?_
 refine rg (va sn (nl (rg (vm v0_ (vm (ii a1) (vm v0_ (vr (aY bI (H.rd h0) z) (vr (kA z z) (vr (uj z z) ?_)))))))))
 obtain⟨⟨g1,g2⟩,E⟩:=ar E
 have p4:0≤(max2 0 (min2 a1 (a0.length:Int))).toNat:=by omega
 have p5:(max2 0 (min2 a1 (a0.length:Int))).toNat≤a0.length:=by omega
 refine vr (fU aN (H.rd h0) z z g1 g2) ?_
 obtain⟨x6,E7,E⟩:=ay E
 refine ye (au eS z ((cX.calls (H.arg (Rd.bz (H.rd h0) p4 p5)) E7).mono ?_))
 rintro _ w ⟨v8,rfl,K⟩
 have H:=H.app K
 refine⟨_,z,va v8 (nl (aj ?_))⟩
 cases E
 exact⟨.inl z,_,tk0 z ⟨aB z (ad ai),_,z,H.bA 0 z⟩⟩
def ny.f(k:Nat)(a1 a2:List Int):Option (List Int):=(cZ.f k a1 a2).bind fun x1=>(qf.f k x1 (a1.length:Int)).bind fun x4=>some x4
theorem ny.calls{w0:World}{k:Nat}{F_:FD}{a1 a2:List Int}{v1_ v2_:Value}{r:List Int}(hf:(Rs.ah F_).inv w0)(h1:Rd (.of (.int .u8)) w0 (Ol (Rs.ah F_).fp w0) v1_ a1)(h2:Rd (.of (.int .u8)) w0 (Ol (Rs.ah F_).fp w0) v2_ a2)(E:ny.f k a1 a2=some r):
 Calls aa 219 #[pt F_.p,v1_,v2_] w0 fun e w'=>∃(u0:Value),e= .returned (u0)∧St (Rs.ah F_).fp w0 w' [.ah F_,.own (.int .u8) 5 u0 r]:=by
 have H:=St.start hf
 unfold ny.f at E
 refine aP (N:=16) (args:=[pt F_.p,v1_,v2_]) Tryz.func219 z z (by simp) ?_
 refine rg (va sn (nl (ae (rg (vm (pt F_.p) (vr (cV Tryz.underlying111 z z) (nl (bS z (aA (ab (rg (vm (pt F_.p) (vm v1_ (vm v2_ ?_))))))))))))))
 obtain⟨x1,E2,E⟩:=ay E
 refine ye (au qV z ((cZ.calls (H.Gt 0 z) (H.cj 0 z (H.rd h1)) (H.cj 0 z (H.rd h2)) E2).mono ?_))
 rintro _ w ⟨v3,rfl,K⟩
 have H:=H.aV 0 z K
 refine⟨_,z,vm v1_ (vr (aY bI (H.rd h1) z) ?_)⟩
 obtain⟨x4,E5,E⟩:=ay E
 refine ye (au Hr z ((qf.calls (H.own 1 z (ao (H.Gt 1 z))) E5).mono ?_))
 rintro _ w ⟨v6,rfl,K⟩
 have H:=H.app K
 refine⟨_,z,va v6 (nl (aj ?_))⟩
 cases E
 exact⟨.inl z,_,tk0 z ⟨aB z (ad ai),_,z,H.bN 0 2 z z z⟩⟩
def oI.f(k:Nat)(a0:(Int×Int×Int)×List Int×List Int):Option (List Int×Bool):=(kG.f k ((a0.1.1,a0.1.2.1,a0.1.2.2),a0.2.1,a0.2.2)).bind fun x2=>an (decide ((0:Int)≤(a0.2.2.length:Int)∧(a0.2.2.length:Int)≤(x2.2.2.length:Int))) ((iR.f k ((x2.2.2.take x2.2.2.length).drop ((a0.2.2.length:Int).toNat))).bind fun x1=>(cZ.f k x1.1 x2.2.1).bind fun x3=>(ny.f k x2.1 x3).bind fun x4=>(kH.f k ((a0.1.1,a0.1.2.1,a0.1.2.2),a0.2.1,a0.2.2) x4 x3).bind fun x5=>some (x5.1,x5.2))
theorem oI.calls{w0:World}{k:Nat}{F_:FD}{a0:(Int×Int×Int)×List Int×List Int}{v0_4_ v0_5_:Value}{r:List Int×Bool}(hf:(Rs.ah F_).inv w0)(h0_4:Rd (.of (.int .u8)) w0 (Ol (Rs.ah F_).fp w0) v0_4_ a0.2.1)(h0_5:Rd (.of (.int .i64)) w0 (Ol (Rs.ah F_).fp w0) v0_5_ a0.2.2)(E:oI.f k a0=some r):
 Calls aa 169 #[.agg #[pt F_.p,ii a0.1.1,ii a0.1.2.1,ii a0.1.2.2,v0_4_,v0_5_]] w0 fun e w'=>∃(u0:Value),e= .returned (.tuple #[u0,.bool r.2])∧St (Rs.ah F_).fp w0 w' [.ah F_,.own (.int .u8) 5 u0 r.1]:=by
 have H:=St.start hf
 unfold oI.f at E
 refine aP (N:=48) (args:=[.agg #[pt F_.p,ii a0.1.1,ii a0.1.2.1,ii a0.1.2.2,v0_4_,v0_5_]]) Tryz.func169 z z (by simp) ?_
 refine rg (ye (bc (cs:=#[pt F_.p,ii a0.1.1,ii a0.1.2.1,ii a0.1.2.2,v0_4_,v0_5_]) H z (fun b1 w H=>va sn (va (.bool false) (nl (rg (vr (az pq z) (vr (bp (l:=[pt F_.p,ii a0.1.1,ii a0.1.2.1,ii a0.1.2.2,v0_4_,v0_5_]) jC (H.Gt 1 z) z z z) ?_))))))))
 obtain⟨x2,E3,E⟩:=ay E
 refine ye (au zn z ((kG.calls (H.Gt 0 z) (H.cj 0 z (H.rd h0_4)) (H.cj 0 z (H.rd h0_5)) E3).mono ?_))
 rintro _ w ⟨v4,v5,v6,rfl,K⟩
 have H:=H.aV 0 z K
 refine⟨_,z,vr cz (vr (aX z z) (vr (aX z z) (vr (aX z z) (va v4 (va v5 (va v6 (nl (ae (cd (ds:=[]) bZ H z z ?_)))))))))⟩
 have H:=H.drew
 refine wg 0 z H (az pq z) (wg 1 z H (az gh z) (wz 2 z H (fun w H=>av dk z (ak (H.Gt 1 z) z)) (wm 3 z H v6 (wg 4 z H (az pq z) (wg 5 z H (az mn z) (wz 6 z H (fun w H=>av eU z (ak (H.Gt 1 z) z)) (wz 7 z H (fun w H=>aY gK (H.rd h0_5) z) ?_)))))))
 obtain⟨⟨g7,g8⟩,E⟩:=ar E
 have p1:(a0.2.2.length:Int).toNat≤x2.2.2.length:=by omega
 have p2:x2.2.2.length≤x2.2.2.length:=by omega
 refine wz 8 z H (fun w H=>iW aN (ao (H.Gt 4 z)) z z g7 g8) ?_
 obtain⟨x1,E1,E⟩:=ay E
 refine wo 9 z (au Ha z ((iR.calls (H.Gt 0 z) (H.cb 4 0 z z z (Rd.bz (ao (H.Gt 4 z)) p1 p2)) E1).mono ?_))
 rintro _ w ⟨v1,rfl,K⟩
 have H:=H.aV 0 z K
 refine⟨_,z,⟨fun _=>H.ag [0,1,2,3,4] z z,wg 10 z (H.ag [0,1,2,3,4] z z) cz (wg 11 z (H.ag [0,1,2,3,4] z z) (aX z z) (wg 12 z (H.ag [0,1,2,3,4] z z) (aX z z) (wy 13 z (H.ag [0,1,2,3,4] z z) (sg v1 z) (wg 14 z (H.ag [0,1,2,3,4] z z) (sg (ii x1.2) z) (wd (ab (rg (vr (az pq z) (vr (az gh z) (vr (av dk z (ak (H.Gt 1 z) z)) (vm v1 (vm v5 ?_))))))))))))⟩⟩
 obtain⟨x3,E2,E⟩:=ay E
 refine ye (au qV z ((cZ.calls (H.Gt 0 z) (H.cb 5 0 z z z (ao (H.Gt 5 z))) (H.cb 3 0 z z z (ao (H.Gt 3 z))) E2).mono ?_))
 rintro _ w ⟨v2,rfl,K⟩
 have H:=H.aV 0 z K
 refine⟨_,z,va v2 (nl (ae (cd (ds:=[]) bZ H z z ?_)))⟩
 have H:=H.drew
 refine wg 0 z H (az pq z) (wz 1 z H (fun w H=>bp (l:=[pt F_.p,ii a0.1.1,ii a0.1.2.1,ii a0.1.2.2,v0_4_,v0_5_]) jC (H.Gt 1 z) z z z) (wg 2 z H (az pq z) (wg 3 z H (az gh z) (wz 4 z H (fun w H=>av dk z (ak (H.Gt 1 z) z)) (wm 5 z H v4 (wm 6 z H v2 (wm 8 z H v2 ?_)))))))
 obtain⟨x4,E4,E⟩:=ay E
 refine wo 7 z (au Hb z ((ny.calls (H.Gt 0 z) (H.cb 2 0 z z z (ao (H.Gt 2 z))) (H.cb 6 0 z z z (ao (H.Gt 6 z))) E4).mono ?_))
 rintro _ w ⟨v3,rfl,K⟩
 have H:=H.aV 0 z K
 refine⟨_,z,⟨fun _=>H.ag [0,1,2,3,4,5,6] z z,?_⟩⟩
 have H:St (Rs.ah F_).fp w0 _ [.ah F_,.blk b1 #[pt F_.p,ii a0.1.1,ii a0.1.2.1,ii a0.1.2.2,v0_4_,v0_5_] 263,.own (.int .u8) 5 v4 x2.1,.own (.int .u8) 5 v5 x2.2.1,.own (.int .u8) 5 v6 x2.2.2,.own (.int .u8) 5 v1 x1.1,.own (.int .u8) 5 v2 x3,.own (.int .u8) 5 v3 x4]:=H
 obtain⟨x5,E5,E⟩:=ay E
 refine wo 9 z (au zo z ((kH.calls (H.Gt 0 z) (H.cj 0 z (H.rd h0_4)) (H.cj 0 z (H.rd h0_5)) (H.cb 7 0 z z z (ao (H.Gt 7 z))) (H.cb 6 0 z z z (ao (H.Gt 6 z))) E5).mono ?_))
 rintro _ w ⟨v7,rfl,K⟩
 have H:=H.aV 0 z K
 refine⟨_,z,⟨fun _=>H.ag [0,1,2,3,4,5,6] z z,wg 10 z (H.ag [0,1,2,3,4,5,6] z z) (aX z z) (wg 11 z (H.ag [0,1,2,3,4,5,6] z z) (aX z z) (wy 12 z (H.ag [0,1,2,3,4,5,6] z z) (sg v7 z) (wg 13 z (H.ag [0,1,2,3,4,5,6] z z) (sg (.bool x5.2) z) (wd (ab (aj ?_))))))⟩⟩
 cases E
 exact⟨.inl z,_,tk0 z ⟨aB z (ad (ad ai)),_,z,H.bN 0 8 z z z⟩⟩
def jH.l0:Nat→Int→List Int→Option (List Int×List Int)
 |0,_,_=>none
 |k+1,a3,x1=>(eN.f k x1).bind fun x2=>bif decide (max2 a3 0≤x2)then(none)else(some (x1,[1]))
def jH.f(k:Nat)(a1 a2:List Int)(a3:Int):Option (List Int×List Int):=(cX.f k a1).bind fun x1=>(cX.f k a2).bind fun x2=>jH.l0 k a3 x2
theorem jH.calls{w0:World}{k:Nat}{F_:FD}{a1 a2:List Int}{a3:Int}{v1_ v2_:Value}{r:List Int×List Int}(hf:(Rs.ah F_).inv w0)(h1:Rd (.of (.int .u8)) w0 (Ol (Rs.ah F_).fp w0) v1_ a1)(h2:Rd (.of (.int .u8)) w0 (Ol (Rs.ah F_).fp w0) v2_ a2)(E:jH.f k a1 a2 a3=some r):
 Calls aa 269 #[pt F_.p,v1_,v2_,ii a3] w0 fun e w'=>∃(u0 u1:Value),e= .returned (.tuple #[u0,u1])∧St (Rs.ah F_).fp w0 w' [.ah F_,.own (.int .u8) 5 u0 r.1,.own (.int .u8) 5 u1 r.2]:=by
 have H:=St.start hf
 unfold jH.f at E
 refine aP (N:=27) (args:=[pt F_.p,v1_,v2_,ii a3]) Tryz.func269 z z (by simp) ?_
 have H:=H.mk0
 refine rg (va sn (va sn (nl (ae (rg (vm (pt F_.p) (vr (cV Tryz.underlying111 z z) (nl (bS z (aA (ab (rg (ye (cr kp H (fun b1 w H=>nl (ae (rg (vm (pt F_.p) (vm v1_ (vm v2_ (vm (ii a3) (ye (cm 10 [pt F_.p,v1_,v2_,ii a3] HC Tryz.func311 z z z z (rg (ye (bc (cs:=#[pt F_.p]) H z (fun b2 w H=>?_)))))))))))))))))))))))))))
 obtain⟨p1,n1,c1,rfl⟩:=eO h1
 refine ye (bc (cs:=#[(.slice p1 n1 c1)]) H z (fun b3 w H=>?_))
 obtain⟨p2,n3,c2,rfl⟩:=eO h2
 refine ye (bc (cs:=#[(.slice p2 n3 c2)]) H z (fun b4 w H=>ye (bc (cs:=#[ii a3]) H z (fun b5 w H=>?_))))
 have H:St (Rs.ah F_).fp w0 _ [.ah F_,.bO undef,.blk b1 #[sn,sn,sn,sn] 395,.blk b2 #[pt F_.p] 111,.blk b3 #[(.slice p1 n1 c1)] 22,.blk b4 #[(.slice p2 n3 c2)] 22,.blk b5 #[ii a3] 3]:=H
 refine va (.nilFunc) (nl (rg (vr (dt [pt b3,pt b4,pt b5,pt b2] z) (va (.func (.func 343) #[] #[pt b3,pt b4,pt b5,pt b2]) (nl (aj (⟨.inl z,.func (.func 343) #[] #[pt b3,pt b4,pt b5,pt b2],tk0 z ⟨ba z (ad ai) z,nl (aG (je 29 [pt b3,pt b4,pt b5,pt b2] z Tryz.func343 z z z z z H 1 z z (fun v1 b6 o1 w hO1 H=>ae (cd (ds:=[]) bZ H z z ?_))))⟩⟩)))))))
 have H:=H.drew
 refine wz 0 z H (fun w H=>av bQ z (ak (H.Gt 4 z) z)) (wz 2 z H (fun w H=>av bQ z (ak (H.Gt 5 z) z)) ?_)
 obtain⟨x1,E1,E⟩:=ay E
 obtain⟨x2,E2,E⟩:=ay E
 refine DU (C:=fun t w=>∃(b7:Nat)(p3:Option Addr)(n4 c3:Nat)(p4:Option Addr)(n5 c4:Nat)(p5:Option Addr)(n6 c5:Nat)(t1:Fr),t=aU t1 [(0,.func (.yield b6) #[] #[]),(3,pt b5),(4,pt b2),(6,pt b7),(14,.agg #[(.slice p3 n4 c3),(.slice p4 n5 c4),sn,(.slice p5 n6 c5)]),(1000000,undef)]∧St (Rs.ah F_).fp w0 w [.ah F_,.bO v1,.blk b1 #[sn,sn,sn,sn] 395,.blk b2 #[pt F_.p] 111,.blk b3 #[(.slice p1 n1 c1)] 22,.blk b4 #[(.slice p2 n3 c2)] 22,.blk b5 #[ii a3] 3,.obj b6 (.loop o1),.own (.int .u8) 5 (.slice p3 n4 c3) x1,.own (.int .u8) 5 (.slice p4 n5 c4) x2,.own (.int .u8) 5 (.slice p5 n6 c5) ([1]),.blk b7 #[sn,sn,sn,sn] 395]) (l2:=tf 9 10) (n2:=1) ?_ fun cut44=>?_
 ·rintro t w ⟨b7,p3,n4,c3,p4,n5,c4,p5,n6,c5,t1,rfl,H⟩
  have H:St (Rs.ah F_).fp w0 _ [.ah F_,.bO v1,.blk b1 #[sn,sn,sn,sn] 395,.blk b2 #[pt F_.p] 111,.blk b3 #[(.slice p1 n1 c1)] 22,.blk b4 #[(.slice p2 n3 c2)] 22,.blk b5 #[ii a3] 3,.obj b6 (.loop o1),.own (.int .u8) 5 (.slice p3 n4 c3) x1,.own (.int .u8) 5 (.slice p4 n5 c4) x2,.own (.int .u8) 5 (.slice p5 n6 c5) ([1]),.blk b7 #[sn,sn,sn,sn] 395]:=H
  refine wo 9 z (cy vz H 11 z z z z z z (fun w H=>⟨fun _=>H.ag [0,1,2,3,4,5,6,7] z z,wd (ab (aG ?_))⟩))
  have H:=H.bB (.int .u8) 5
  have H:=H.bB (.int .u8) 5
  have H:=H.bB (.int .u8) 5
  have H:=H.bB (.int .u8) 5
  refine bx (fun kk t w=>∃(t2:Fr),kk≤k∧jH.l0 kk a3 x2=some r∧t=aU t2 [(0,.func (.yield b6) #[] #[]),(3,pt b5),(4,pt b2),(6,pt b7),(1000000,undef)]∧St (Rs.ah F_).fp w0 w [.ah F_,.bO v1,.blk b1 #[sn,sn,sn,sn] 395,.blk b2 #[pt F_.p] 111,.blk b3 #[(.slice p1 n1 c1)] 22,.blk b4 #[(.slice p2 n3 c2)] 22,.blk b5 #[ii a3] 3,.obj b6 (.loop o1),.own (.int .u8) 5 (.slice p3 n4 c3) x1,.own (.int .u8) 5 (.slice p4 n5 c4) x2,.own (.int .u8) 5 (.slice p5 n6 c5) ([1]),.blk b7 #[(.slice p3 n4 c3),(.slice p4 n5 c4),sn,(.slice p5 n6 c5)] 395,.own (.int .u8) 5 sn ([]:List Int),.own (.int .u8) 5 sn ([]:List Int),.own (.int .u8) 5 sn ([]:List Int),.own (.int .u8) 5 sn ([]:List Int)]) k ?_ ?_
  ·exact⟨_,aI _,E,aD ⟨z,z,z,z,z,trivial⟩,H⟩
  rintro kk t w ⟨t2,hk1,E,rfl,H⟩
  obtain⟨k1,rfl⟩|rfl:=ks kk
  rotate_left
  ·cases E
  rw[jH.l0]at E
  refine ae (ae (eZ (ds:=[]) (fun w=>∃cs':Array Value,St (Rs.ah F_).fp w0 w [.ah F_,.bO v1,.blk b1 cs' 395,.blk b2 #[pt F_.p] 111,.blk b3 #[(.slice p1 n1 c1)] 22,.blk b4 #[(.slice p2 n3 c2)] 22,.blk b5 #[ii a3] 3,.obj b6 (.loop o1),.own (.int .u8) 5 (.slice p3 n4 c3) x1,.own (.int .u8) 5 (.slice p4 n5 c4) x2,.own (.int .u8) 5 (.slice p5 n6 c5) ([1]),.blk b7 #[(.slice p3 n4 c3),(.slice p4 n5 c4),sn,(.slice p5 n6 c5)] 395,.own (.int .u8) 5 sn ([]:List Int),.own (.int .u8) 5 sn ([]:List Int),.own (.int .u8) 5 sn ([]:List Int),.own (.int .u8) 5 sn ([]:List Int)]) bZ H z z ?_))
  have H:=H.drew
  refine wm 0 z ⟨_,H⟩ (.func (.yield b6) #[] #[]) (wz 1 z ⟨_,H⟩ (fun w ⟨cs',H⟩=>bp (l:=[(.slice p3 n4 c3),(.slice p4 n5 c4),sn,(.slice p5 n6 c5)]) zg (H.Gt 11 z) z z z) (wo 2 z (jf [.agg #[(.slice p3 n4 c3),(.slice p4 n5 c4),sn,(.slice p5 n6 c5)]] z z H 7 z hO1 z z (aH (ye (cr kp H (fun b8 w H=>s_ (cy vz H 16 z z z z z z (fun w H=>aK (yB H 7 z hO1 (fun w H=>aG (aH (vr (bp (l:=[(.slice p3 n4 c3),(.slice p4 n5 c4),sn,(.slice p5 n6 c5)]) zg (H.Gt 16 z) z z z) (s_ (cy vz H 2 z z z z z z (fun w H=>aK (aR (yN H 7 z hO1 (fun w H=>⟨fun _=>⟨_,H.ag [0,1,2,3,4,5,6,7,8,9,10,11,12,13,14,15] z z⟩,wm 3 z ⟨_,H.ag [0,1,2,3,4,5,6,7,8,9,10,11,12,13,14,15] z z⟩ (.bool true) (wn 4 z z z z ⟨_,H.ag [0,1,2,3,4,5,6,7,8,9,10,11,12,13,14,15] z z⟩ (fun w ⟨cs',H⟩=>az zE z) (wn 5 z z z z ⟨_,H.ag [0,1,2,3,4,5,6,7,8,9,10,11,12,13,14,15] z z⟩ (fun w ⟨cs',H⟩=>bJ (dm vc z z (by decide) (by decide)) (v':=.pointer (some ⟨b7,1,none⟩)) z) (wn 6 z z z z ⟨_,H.ag [0,1,2,3,4,5,6,7,8,9,10,11,12,13,14,15] z z⟩ (fun w ⟨cs',H⟩=>av bQ z (ak (H.Gt 11 z) z)) (wn 8 z z z z ⟨_,H.ag [0,1,2,3,4,5,6,7,8,9,10,11,12,13,14,15] z z⟩ (fun w ⟨cs',H⟩=>av bf z (ak (H.Gt 6 z) z)) (wn 9 z z z z ⟨_,H.ag [0,1,2,3,4,5,6,7,8,9,10,11,12,13,14,15] z z⟩ (fun w ⟨cs',H⟩=>uj z z) ?_)))))⟩)))))))))))))))))))
  obtain⟨x3,E3,E⟩:=ay E
  refine wp 7 z z z z (au qW z ((eN.calls (H.own 9 z (ao (H.Gt 9 z))) E3).mono ?_))
  rintro _ w ⟨rfl,K⟩
  have H:=H.app K
  refine⟨_,z,⟨fun _=>⟨_,H.ag [0,1,2,3,4,5,6,7,8,9,10,11,12,13,14,15] z z⟩,wn 10 z z z z ⟨_,H.ag [0,1,2,3,4,5,6,7,8,9,10,11,12,13,14,15] z z⟩ (fun w ⟨cs',H⟩=>dq z z) (wg 11 z ⟨_,H.ag [0,1,2,3,4,5,6,7,8,9,10,11,12,13,14,15] z z⟩ (pT (.bool (decide (max2 a3 0≤x3))) z z z) (wd (ab ?_)))⟩⟩
  refine aE E z (fun c6 E=>?_) (fun c6 E=>?_)
  ·cases E
  ·refine bt (aM (aM (bu (⟨.inr z,.tuple #[],tk0 z ⟨ba z ai z,ji H 7 z hO1 (fun w H=>aR (ab (ae (cd (ds:=[]) bZ H z z ?_))))⟩⟩))))
   have H:=H.drew
   refine wg 0 z H (az zE z) (wz 1 z H (fun w H=>bJ (dm vc z z (by decide) (by decide)) (v':=.pointer (some ⟨b1,1,none⟩)) z) (wz 2 z H (fun w H=>av bQ z (ak (H.Gt 2 z) z)) (wg 3 z H (az Ie z) (wz 4 z H (fun w H=>bJ (dm vc z z (by decide) (by decide)) (v':=.pointer (some ⟨b1,3,none⟩)) z) (wz 5 z H (fun w H=>av bQ z (ak (H.Gt 2 z) z)) (wg 6 z H (sg (.slice p4 n5 c4) z) (wg 7 z H (sg (.slice p5 n6 c5) z) (wd (ab (aj ?_))))))))))
   cases E
   exact⟨.inl z,_,gT H 1 z z (fun w H=>⟨aB z (ad (ad ai)),_,_,z,H.fJ 0 9 10 z z z z z z⟩)⟩
 refine DT (i:=1) (j:=5) (k:=8) (li:=tf 3 10) (lj:=#[true,false,true,false,false,true,false,false,false,false]) (lk:=#[true,false,true,false,false,false,false,false,true,false]) z z z z z z z z z (by kernel_rfl) ?_ ?_ ?_
 ·refine(au eS z ((cX.calls (H.arg (H.rd h1)) E1).mono ?_))
  rintro _ w ⟨v2,rfl,K⟩
  have H:=H.app K
  refine⟨_,z,⟨fun _=>H.ag [0,1,2,3,4,5,6,7] z z,?_⟩⟩
  refine DT (i:=3) (j:=5) (k:=8) (li:=tf 4 10) (lj:=#[true,true,true,false,false,true,false,false,false,false]) (lk:=#[true,true,true,false,false,false,false,false,true,false]) z z z z z z z z z (by kernel_rfl) ?_ ?_ ?_
  ·refine(au eS z ((cX.calls (H.arg (H.rd h2)) E2).mono ?_))
   rintro _ w ⟨v3,rfl,K⟩
   have H:=H.app K
   refine⟨_,z,⟨fun _=>H.ag [0,1,2,3,4,5,6,7] z z,?_⟩⟩
   have H:St (Rs.ah F_).fp w0 _ [.ah F_,.bO v1,.blk b1 #[sn,sn,sn,sn] 395,.blk b2 #[pt F_.p] 111,.blk b3 #[(.slice p1 n1 c1)] 22,.blk b4 #[(.slice p2 n3 c2)] 22,.blk b5 #[ii a3] 3,.obj b6 (.loop o1),.own (.int .u8) 5 v2 x1,.own (.int .u8) 5 v3 x2]:=H
   obtain⟨p3,n4,c3,rfl⟩:=bX (H.Gt 8 z)
   obtain⟨p4,n5,c4,rfl⟩:=bX (H.Gt 9 z)
   refine wg 4 z (H.ag [0,1,2,3,4,5,6,7] z z) (ff (cs:=[(.slice p3 n4 c3),(.slice p4 n5 c4)]) fq z) ?_
   refine lZ (i:=5) (j:=8) (li:=tf 6 10) (lj:=#[true,true,true,true,true,false,false,false,true,false]) z z z z z z (by kernel_rfl) ?_ ?_
   ·refine(cL (e:=(.int .u8)) (l:=[1]) aN H z (by decide) ⟨z,z,trivial⟩ (by decide) (fun v4 w H=>⟨fun _=>H.ag [0,1,2,3,4,5,6,7] z z,?_⟩))
    have H:St (Rs.ah F_).fp w0 _ [.ah F_,.bO v1,.blk b1 #[sn,sn,sn,sn] 395,.blk b2 #[pt F_.p] 111,.blk b3 #[(.slice p1 n1 c1)] 22,.blk b4 #[(.slice p2 n3 c2)] 22,.blk b5 #[ii a3] 3,.obj b6 (.loop o1),.own (.int .u8) 5 (.slice p3 n4 c3) x1,.own (.int .u8) 5 (.slice p4 n5 c4) x2,.own (.int .u8) 5 v4 ([1])]:=H
    obtain⟨p5,n6,c5,rfl⟩:=bX (H.Gt 10 z)
    refine wg 6 z (H.ag [0,1,2,3,4,5,6,7] z z) (ff (cs:=[sn,(.slice p5 n6 c5)]) fq z) (wg 7 z (H.ag [0,1,2,3,4,5,6,7] z z) (cf (cs:=[(.slice p3 n4 c3),(.slice p4 n5 c4),sn,(.slice p5 n6 c5)]) jE (by kernel_rfl)) (wo 8 z (cr kp H (fun b7 w H=>⟨fun _=>H.ag [0,1,2,3,4,5,6,7] z z,?_⟩))))
    exact cut44 _ _ ⟨_,_,_,_,_,_,_,_,_,_,_,aD ⟨z,z,z,z,z,z,trivial⟩,H⟩
   ·refine(cr kp H (fun b7 w H=>⟨fun _=>H.ag [0,1,2,3,4,5,6,7] z z,wo 5 z (cL (e:=(.int .u8)) (l:=[1]) aN H z (by decide) ⟨z,z,trivial⟩ (by decide) (fun v4 w H=>⟨fun _=>H.ag [0,1,2,3,4,5,6,7] z z,?_⟩))⟩))
    have H:St (Rs.ah F_).fp w0 _ [.ah F_,.bO v1,.blk b1 #[sn,sn,sn,sn] 395,.blk b2 #[pt F_.p] 111,.blk b3 #[(.slice p1 n1 c1)] 22,.blk b4 #[(.slice p2 n3 c2)] 22,.blk b5 #[ii a3] 3,.obj b6 (.loop o1),.own (.int .u8) 5 (.slice p3 n4 c3) x1,.own (.int .u8) 5 (.slice p4 n5 c4) x2,.blk b7 #[sn,sn,sn,sn] 395,.own (.int .u8) 5 v4 ([1])]:=H
    obtain⟨p5,n6,c5,rfl⟩:=bX (H.Gt 11 z)
    refine wg 6 z (H.ag [0,1,2,3,4,5,6,7] z z) (ff (cs:=[sn,(.slice p5 n6 c5)]) fq z) (wg 7 z (H.ag [0,1,2,3,4,5,6,7] z z) (cf (cs:=[(.slice p3 n4 c3),(.slice p4 n5 c4),sn,(.slice p5 n6 c5)]) jE (by kernel_rfl)) ?_)
    have H:St (Rs.ah F_).fp w0 _ [.ah F_,.bO v1,.blk b1 #[sn,sn,sn,sn] 395,.blk b2 #[pt F_.p] 111,.blk b3 #[(.slice p1 n1 c1)] 22,.blk b4 #[(.slice p2 n3 c2)] 22,.blk b5 #[ii a3] 3,.obj b6 (.loop o1),.own (.int .u8) 5 (.slice p3 n4 c3) x1,.own (.int .u8) 5 (.slice p4 n5 c4) x2,.own (.int .u8) 5 (.slice p5 n6 c5) ([1]),.blk b7 #[sn,sn,sn,sn] 395]:=H.ag [0,1,2,3,4,5,6,7,8,9,11,10] z z
    exact cut44 _ _ ⟨_,_,_,_,_,_,_,_,_,_,_,aD ⟨z,z,z,z,z,z,trivial⟩,H⟩
  ·refine(cL (e:=(.int .u8)) (l:=[1]) aN H z (by decide) ⟨z,z,trivial⟩ (by decide) (fun v4 w H=>⟨fun _=>H.ag [0,1,2,3,4,5,6,7] z z,?_⟩))
   have H:St (Rs.ah F_).fp w0 _ [.ah F_,.bO v1,.blk b1 #[sn,sn,sn,sn] 395,.blk b2 #[pt F_.p] 111,.blk b3 #[(.slice p1 n1 c1)] 22,.blk b4 #[(.slice p2 n3 c2)] 22,.blk b5 #[ii a3] 3,.obj b6 (.loop o1),.own (.int .u8) 5 v2 x1,.own (.int .u8) 5 v4 ([1])]:=H
   obtain⟨p5,n6,c5,rfl⟩:=bX (H.Gt 9 z)
   refine wg 6 z (H.ag [0,1,2,3,4,5,6,7] z z) (ff (cs:=[sn,(.slice p5 n6 c5)]) fq z) ?_
   refine lZ (i:=3) (j:=8) (li:=#[true,true,true,true,false,true,true,false,false,false]) (lj:=#[true,true,true,false,false,true,true,false,true,false]) z z z z z z (by kernel_rfl) ?_ ?_
   ·refine(au eS z ((cX.calls (H.arg (H.rd h2)) E2).mono ?_))
    rintro _ w ⟨v3,rfl,K⟩
    have H:=H.app K
    refine⟨_,z,⟨fun _=>H.ag [0,1,2,3,4,5,6,7] z z,?_⟩⟩
    have H:St (Rs.ah F_).fp w0 _ [.ah F_,.bO v1,.blk b1 #[sn,sn,sn,sn] 395,.blk b2 #[pt F_.p] 111,.blk b3 #[(.slice p1 n1 c1)] 22,.blk b4 #[(.slice p2 n3 c2)] 22,.blk b5 #[ii a3] 3,.obj b6 (.loop o1),.own (.int .u8) 5 v2 x1,.own (.int .u8) 5 (.slice p5 n6 c5) ([1]),.own (.int .u8) 5 v3 x2]:=H
    obtain⟨p3,n4,c3,rfl⟩:=bX (H.Gt 8 z)
    obtain⟨p4,n5,c4,rfl⟩:=bX (H.Gt 10 z)
    refine wg 4 z (H.ag [0,1,2,3,4,5,6,7] z z) (ff (cs:=[(.slice p3 n4 c3),(.slice p4 n5 c4)]) fq z) (wg 7 z (H.ag [0,1,2,3,4,5,6,7] z z) (cf (cs:=[(.slice p3 n4 c3),(.slice p4 n5 c4),sn,(.slice p5 n6 c5)]) jE (by kernel_rfl)) (wo 8 z (cr kp H (fun b7 w H=>⟨fun _=>H.ag [0,1,2,3,4,5,6,7] z z,?_⟩))))
    have H:St (Rs.ah F_).fp w0 _ [.ah F_,.bO v1,.blk b1 #[sn,sn,sn,sn] 395,.blk b2 #[pt F_.p] 111,.blk b3 #[(.slice p1 n1 c1)] 22,.blk b4 #[(.slice p2 n3 c2)] 22,.blk b5 #[ii a3] 3,.obj b6 (.loop o1),.own (.int .u8) 5 (.slice p3 n4 c3) x1,.own (.int .u8) 5 (.slice p4 n5 c4) x2,.own (.int .u8) 5 (.slice p5 n6 c5) ([1]),.blk b7 #[sn,sn,sn,sn] 395]:=H.ag [0,1,2,3,4,5,6,7,8,10,9,11] z z
    exact cut44 _ _ ⟨_,_,_,_,_,_,_,_,_,_,_,aD ⟨z,z,z,z,z,z,trivial⟩,H⟩
   ·refine(cr kp H (fun b7 w H=>⟨fun _=>H.ag [0,1,2,3,4,5,6,7] z z,wo 3 z (au eS z ((cX.calls (H.arg (H.rd h2)) E2).mono ?_))⟩))
    rintro _ w ⟨v3,rfl,K⟩
    have H:=H.app K
    refine⟨_,z,⟨fun _=>H.ag [0,1,2,3,4,5,6,7] z z,?_⟩⟩
    have H:St (Rs.ah F_).fp w0 _ [.ah F_,.bO v1,.blk b1 #[sn,sn,sn,sn] 395,.blk b2 #[pt F_.p] 111,.blk b3 #[(.slice p1 n1 c1)] 22,.blk b4 #[(.slice p2 n3 c2)] 22,.blk b5 #[ii a3] 3,.obj b6 (.loop o1),.own (.int .u8) 5 v2 x1,.own (.int .u8) 5 (.slice p5 n6 c5) ([1]),.blk b7 #[sn,sn,sn,sn] 395,.own (.int .u8) 5 v3 x2]:=H
    obtain⟨p3,n4,c3,rfl⟩:=bX (H.Gt 8 z)
    obtain⟨p4,n5,c4,rfl⟩:=bX (H.Gt 11 z)
    refine wg 4 z (H.ag [0,1,2,3,4,5,6,7] z z) (ff (cs:=[(.slice p3 n4 c3),(.slice p4 n5 c4)]) fq z) (wg 7 z (H.ag [0,1,2,3,4,5,6,7] z z) (cf (cs:=[(.slice p3 n4 c3),(.slice p4 n5 c4),sn,(.slice p5 n6 c5)]) jE (by kernel_rfl)) ?_)
    have H:St (Rs.ah F_).fp w0 _ [.ah F_,.bO v1,.blk b1 #[sn,sn,sn,sn] 395,.blk b2 #[pt F_.p] 111,.blk b3 #[(.slice p1 n1 c1)] 22,.blk b4 #[(.slice p2 n3 c2)] 22,.blk b5 #[ii a3] 3,.obj b6 (.loop o1),.own (.int .u8) 5 (.slice p3 n4 c3) x1,.own (.int .u8) 5 (.slice p4 n5 c4) x2,.own (.int .u8) 5 (.slice p5 n6 c5) ([1]),.blk b7 #[sn,sn,sn,sn] 395]:=H.ag [0,1,2,3,4,5,6,7,8,11,9,10] z z
    exact cut44 _ _ ⟨_,_,_,_,_,_,_,_,_,_,_,aD ⟨z,z,z,z,z,z,trivial⟩,H⟩
  ·refine(cr kp H (fun b7 w H=>⟨fun _=>H.ag [0,1,2,3,4,5,6,7] z z,?_⟩))
   refine lZ (i:=3) (j:=5) (li:=#[true,true,true,true,false,false,false,false,true,false]) (lj:=#[true,true,true,false,false,true,false,false,true,false]) z z z z z z (by kernel_rfl) ?_ ?_
   ·refine(au eS z ((cX.calls (H.arg (H.rd h2)) E2).mono ?_))
    rintro _ w ⟨v3,rfl,K⟩
    have H:=H.app K
    refine⟨_,z,⟨fun _=>H.ag [0,1,2,3,4,5,6,7] z z,?_⟩⟩
    have H:St (Rs.ah F_).fp w0 _ [.ah F_,.bO v1,.blk b1 #[sn,sn,sn,sn] 395,.blk b2 #[pt F_.p] 111,.blk b3 #[(.slice p1 n1 c1)] 22,.blk b4 #[(.slice p2 n3 c2)] 22,.blk b5 #[ii a3] 3,.obj b6 (.loop o1),.own (.int .u8) 5 v2 x1,.blk b7 #[sn,sn,sn,sn] 395,.own (.int .u8) 5 v3 x2]:=H
    obtain⟨p3,n4,c3,rfl⟩:=bX (H.Gt 8 z)
    obtain⟨p4,n5,c4,rfl⟩:=bX (H.Gt 10 z)
    refine wg 4 z (H.ag [0,1,2,3,4,5,6,7] z z) (ff (cs:=[(.slice p3 n4 c3),(.slice p4 n5 c4)]) fq z) (wo 5 z (cL (e:=(.int .u8)) (l:=[1]) aN H z (by decide) ⟨z,z,trivial⟩ (by decide) (fun v4 w H=>⟨fun _=>H.ag [0,1,2,3,4,5,6,7] z z,?_⟩)))
    have H:St (Rs.ah F_).fp w0 _ [.ah F_,.bO v1,.blk b1 #[sn,sn,sn,sn] 395,.blk b2 #[pt F_.p] 111,.blk b3 #[(.slice p1 n1 c1)] 22,.blk b4 #[(.slice p2 n3 c2)] 22,.blk b5 #[ii a3] 3,.obj b6 (.loop o1),.own (.int .u8) 5 (.slice p3 n4 c3) x1,.blk b7 #[sn,sn,sn,sn] 395,.own (.int .u8) 5 (.slice p4 n5 c4) x2,.own (.int .u8) 5 v4 ([1])]:=H
    obtain⟨p5,n6,c5,rfl⟩:=bX (H.Gt 11 z)
    refine wg 6 z (H.ag [0,1,2,3,4,5,6,7] z z) (ff (cs:=[sn,(.slice p5 n6 c5)]) fq z) (wg 7 z (H.ag [0,1,2,3,4,5,6,7] z z) (cf (cs:=[(.slice p3 n4 c3),(.slice p4 n5 c4),sn,(.slice p5 n6 c5)]) jE (by kernel_rfl)) ?_)
    have H:St (Rs.ah F_).fp w0 _ [.ah F_,.bO v1,.blk b1 #[sn,sn,sn,sn] 395,.blk b2 #[pt F_.p] 111,.blk b3 #[(.slice p1 n1 c1)] 22,.blk b4 #[(.slice p2 n3 c2)] 22,.blk b5 #[ii a3] 3,.obj b6 (.loop o1),.own (.int .u8) 5 (.slice p3 n4 c3) x1,.own (.int .u8) 5 (.slice p4 n5 c4) x2,.own (.int .u8) 5 (.slice p5 n6 c5) ([1]),.blk b7 #[sn,sn,sn,sn] 395]:=H.ag [0,1,2,3,4,5,6,7,8,10,11,9] z z
    exact cut44 _ _ ⟨_,_,_,_,_,_,_,_,_,_,_,aD ⟨z,z,z,z,z,z,trivial⟩,H⟩
   ·refine(cL (e:=(.int .u8)) (l:=[1]) aN H z (by decide) ⟨z,z,trivial⟩ (by decide) (fun v4 w H=>⟨fun _=>H.ag [0,1,2,3,4,5,6,7] z z,?_⟩))
    have H:St (Rs.ah F_).fp w0 _ [.ah F_,.bO v1,.blk b1 #[sn,sn,sn,sn] 395,.blk b2 #[pt F_.p] 111,.blk b3 #[(.slice p1 n1 c1)] 22,.blk b4 #[(.slice p2 n3 c2)] 22,.blk b5 #[ii a3] 3,.obj b6 (.loop o1),.own (.int .u8) 5 v2 x1,.blk b7 #[sn,sn,sn,sn] 395,.own (.int .u8) 5 v4 ([1])]:=H
    obtain⟨p5,n6,c5,rfl⟩:=bX (H.Gt 10 z)
    refine wg 6 z (H.ag [0,1,2,3,4,5,6,7] z z) (ff (cs:=[sn,(.slice p5 n6 c5)]) fq z) (wo 3 z (au eS z ((cX.calls (H.arg (H.rd h2)) E2).mono ?_)))
    rintro _ w ⟨v3,rfl,K⟩
    have H:=H.app K
    refine⟨_,z,⟨fun _=>H.ag [0,1,2,3,4,5,6,7] z z,?_⟩⟩
    have H:St (Rs.ah F_).fp w0 _ [.ah F_,.bO v1,.blk b1 #[sn,sn,sn,sn] 395,.blk b2 #[pt F_.p] 111,.blk b3 #[(.slice p1 n1 c1)] 22,.blk b4 #[(.slice p2 n3 c2)] 22,.blk b5 #[ii a3] 3,.obj b6 (.loop o1),.own (.int .u8) 5 v2 x1,.blk b7 #[sn,sn,sn,sn] 395,.own (.int .u8) 5 (.slice p5 n6 c5) ([1]),.own (.int .u8) 5 v3 x2]:=H
    obtain⟨p3,n4,c3,rfl⟩:=bX (H.Gt 8 z)
    obtain⟨p4,n5,c4,rfl⟩:=bX (H.Gt 11 z)
    refine wg 4 z (H.ag [0,1,2,3,4,5,6,7] z z) (ff (cs:=[(.slice p3 n4 c3),(.slice p4 n5 c4)]) fq z) (wg 7 z (H.ag [0,1,2,3,4,5,6,7] z z) (cf (cs:=[(.slice p3 n4 c3),(.slice p4 n5 c4),sn,(.slice p5 n6 c5)]) jE (by kernel_rfl)) ?_)
    have H:St (Rs.ah F_).fp w0 _ [.ah F_,.bO v1,.blk b1 #[sn,sn,sn,sn] 395,.blk b2 #[pt F_.p] 111,.blk b3 #[(.slice p1 n1 c1)] 22,.blk b4 #[(.slice p2 n3 c2)] 22,.blk b5 #[ii a3] 3,.obj b6 (.loop o1),.own (.int .u8) 5 (.slice p3 n4 c3) x1,.own (.int .u8) 5 (.slice p4 n5 c4) x2,.own (.int .u8) 5 (.slice p5 n6 c5) ([1]),.blk b7 #[sn,sn,sn,sn] 395]:=H.ag [0,1,2,3,4,5,6,7,8,11,10,9] z z
    exact cut44 _ _ ⟨_,_,_,_,_,_,_,_,_,_,_,aD ⟨z,z,z,z,z,z,trivial⟩,H⟩
 ·refine(cL (e:=(.int .u8)) (l:=[1]) aN H z (by decide) ⟨z,z,trivial⟩ (by decide) (fun v4 w H=>⟨fun _=>H.ag [0,1,2,3,4,5,6,7] z z,?_⟩))
  have H:St (Rs.ah F_).fp w0 _ [.ah F_,.bO v1,.blk b1 #[sn,sn,sn,sn] 395,.blk b2 #[pt F_.p] 111,.blk b3 #[(.slice p1 n1 c1)] 22,.blk b4 #[(.slice p2 n3 c2)] 22,.blk b5 #[ii a3] 3,.obj b6 (.loop o1),.own (.int .u8) 5 v4 ([1])]:=H
  obtain⟨p5,n6,c5,rfl⟩:=bX (H.Gt 8 z)
  refine wg 6 z (H.ag [0,1,2,3,4,5,6,7] z z) (ff (cs:=[sn,(.slice p5 n6 c5)]) fq z) ?_
  refine lZ (i:=1) (j:=8) (li:=#[true,true,true,false,false,true,true,false,false,false]) (lj:=#[true,false,true,false,false,true,true,false,true,false]) z z z z z z (by kernel_rfl) ?_ ?_
  ·refine(au eS z ((cX.calls (H.arg (H.rd h1)) E1).mono ?_))
   rintro _ w ⟨v2,rfl,K⟩
   have H:=H.app K
   refine⟨_,z,⟨fun _=>H.ag [0,1,2,3,4,5,6,7] z z,?_⟩⟩
   refine lZ (i:=3) (j:=8) (li:=#[true,true,true,true,false,true,true,false,false,false]) (lj:=#[true,true,true,false,false,true,true,false,true,false]) z z z z z z (by kernel_rfl) ?_ ?_
   ·refine(au eS z ((cX.calls (H.arg (H.rd h2)) E2).mono ?_))
    rintro _ w ⟨v3,rfl,K⟩
    have H:=H.app K
    refine⟨_,z,⟨fun _=>H.ag [0,1,2,3,4,5,6,7] z z,?_⟩⟩
    have H:St (Rs.ah F_).fp w0 _ [.ah F_,.bO v1,.blk b1 #[sn,sn,sn,sn] 395,.blk b2 #[pt F_.p] 111,.blk b3 #[(.slice p1 n1 c1)] 22,.blk b4 #[(.slice p2 n3 c2)] 22,.blk b5 #[ii a3] 3,.obj b6 (.loop o1),.own (.int .u8) 5 (.slice p5 n6 c5) ([1]),.own (.int .u8) 5 v2 x1,.own (.int .u8) 5 v3 x2]:=H
    obtain⟨p3,n4,c3,rfl⟩:=bX (H.Gt 9 z)
    obtain⟨p4,n5,c4,rfl⟩:=bX (H.Gt 10 z)
    refine wg 4 z (H.ag [0,1,2,3,4,5,6,7] z z) (ff (cs:=[(.slice p3 n4 c3),(.slice p4 n5 c4)]) fq z) (wg 7 z (H.ag [0,1,2,3,4,5,6,7] z z) (cf (cs:=[(.slice p3 n4 c3),(.slice p4 n5 c4),sn,(.slice p5 n6 c5)]) jE (by kernel_rfl)) (wo 8 z (cr kp H (fun b7 w H=>⟨fun _=>H.ag [0,1,2,3,4,5,6,7] z z,?_⟩))))
    have H:St (Rs.ah F_).fp w0 _ [.ah F_,.bO v1,.blk b1 #[sn,sn,sn,sn] 395,.blk b2 #[pt F_.p] 111,.blk b3 #[(.slice p1 n1 c1)] 22,.blk b4 #[(.slice p2 n3 c2)] 22,.blk b5 #[ii a3] 3,.obj b6 (.loop o1),.own (.int .u8) 5 (.slice p3 n4 c3) x1,.own (.int .u8) 5 (.slice p4 n5 c4) x2,.own (.int .u8) 5 (.slice p5 n6 c5) ([1]),.blk b7 #[sn,sn,sn,sn] 395]:=H.ag [0,1,2,3,4,5,6,7,9,10,8,11] z z
    exact cut44 _ _ ⟨_,_,_,_,_,_,_,_,_,_,_,aD ⟨z,z,z,z,z,z,trivial⟩,H⟩
   ·refine(cr kp H (fun b7 w H=>⟨fun _=>H.ag [0,1,2,3,4,5,6,7] z z,wo 3 z (au eS z ((cX.calls (H.arg (H.rd h2)) E2).mono ?_))⟩))
    rintro _ w ⟨v3,rfl,K⟩
    have H:=H.app K
    refine⟨_,z,⟨fun _=>H.ag [0,1,2,3,4,5,6,7] z z,?_⟩⟩
    have H:St (Rs.ah F_).fp w0 _ [.ah F_,.bO v1,.blk b1 #[sn,sn,sn,sn] 395,.blk b2 #[pt F_.p] 111,.blk b3 #[(.slice p1 n1 c1)] 22,.blk b4 #[(.slice p2 n3 c2)] 22,.blk b5 #[ii a3] 3,.obj b6 (.loop o1),.own (.int .u8) 5 (.slice p5 n6 c5) ([1]),.own (.int .u8) 5 v2 x1,.blk b7 #[sn,sn,sn,sn] 395,.own (.int .u8) 5 v3 x2]:=H
    obtain⟨p3,n4,c3,rfl⟩:=bX (H.Gt 9 z)
    obtain⟨p4,n5,c4,rfl⟩:=bX (H.Gt 11 z)
    refine wg 4 z (H.ag [0,1,2,3,4,5,6,7] z z) (ff (cs:=[(.slice p3 n4 c3),(.slice p4 n5 c4)]) fq z) (wg 7 z (H.ag [0,1,2,3,4,5,6,7] z z) (cf (cs:=[(.slice p3 n4 c3),(.slice p4 n5 c4),sn,(.slice p5 n6 c5)]) jE (by kernel_rfl)) ?_)
    have H:St (Rs.ah F_).fp w0 _ [.ah F_,.bO v1,.blk b1 #[sn,sn,sn,sn] 395,.blk b2 #[pt F_.p] 111,.blk b3 #[(.slice p1 n1 c1)] 22,.blk b4 #[(.slice p2 n3 c2)] 22,.blk b5 #[ii a3] 3,.obj b6 (.loop o1),.own (.int .u8) 5 (.slice p3 n4 c3) x1,.own (.int .u8) 5 (.slice p4 n5 c4) x2,.own (.int .u8) 5 (.slice p5 n6 c5) ([1]),.blk b7 #[sn,sn,sn,sn] 395]:=H.ag [0,1,2,3,4,5,6,7,9,11,8,10] z z
    exact cut44 _ _ ⟨_,_,_,_,_,_,_,_,_,_,_,aD ⟨z,z,z,z,z,z,trivial⟩,H⟩
  ·refine(cr kp H (fun b7 w H=>⟨fun _=>H.ag [0,1,2,3,4,5,6,7] z z,wo 1 z (au eS z ((cX.calls (H.arg (H.rd h1)) E1).mono ?_))⟩))
   rintro _ w ⟨v2,rfl,K⟩
   have H:=H.app K
   refine⟨_,z,⟨fun _=>H.ag [0,1,2,3,4,5,6,7] z z,wo 3 z (au eS z ((cX.calls (H.arg (H.rd h2)) E2).mono ?_))⟩⟩
   rintro _ w ⟨v3,rfl,K⟩
   have H:=H.app K
   refine⟨_,z,⟨fun _=>H.ag [0,1,2,3,4,5,6,7] z z,?_⟩⟩
   have H:St (Rs.ah F_).fp w0 _ [.ah F_,.bO v1,.blk b1 #[sn,sn,sn,sn] 395,.blk b2 #[pt F_.p] 111,.blk b3 #[(.slice p1 n1 c1)] 22,.blk b4 #[(.slice p2 n3 c2)] 22,.blk b5 #[ii a3] 3,.obj b6 (.loop o1),.own (.int .u8) 5 (.slice p5 n6 c5) ([1]),.blk b7 #[sn,sn,sn,sn] 395,.own (.int .u8) 5 v2 x1,.own (.int .u8) 5 v3 x2]:=H
   obtain⟨p3,n4,c3,rfl⟩:=bX (H.Gt 10 z)
   obtain⟨p4,n5,c4,rfl⟩:=bX (H.Gt 11 z)
   refine wg 4 z (H.ag [0,1,2,3,4,5,6,7] z z) (ff (cs:=[(.slice p3 n4 c3),(.slice p4 n5 c4)]) fq z) (wg 7 z (H.ag [0,1,2,3,4,5,6,7] z z) (cf (cs:=[(.slice p3 n4 c3),(.slice p4 n5 c4),sn,(.slice p5 n6 c5)]) jE (by kernel_rfl)) ?_)
   have H:St (Rs.ah F_).fp w0 _ [.ah F_,.bO v1,.blk b1 #[sn,sn,sn,sn] 395,.blk b2 #[pt F_.p] 111,.blk b3 #[(.slice p1 n1 c1)] 22,.blk b4 #[(.slice p2 n3 c2)] 22,.blk b5 #[ii a3] 3,.obj b6 (.loop o1),.own (.int .u8) 5 (.slice p3 n4 c3) x1,.own (.int .u8) 5 (.slice p4 n5 c4) x2,.own (.int .u8) 5 (.slice p5 n6 c5) ([1]),.blk b7 #[sn,sn,sn,sn] 395]:=H.ag [0,1,2,3,4,5,6,7,10,11,8,9] z z
   exact cut44 _ _ ⟨_,_,_,_,_,_,_,_,_,_,_,aD ⟨z,z,z,z,z,z,trivial⟩,H⟩
 ·refine(cr kp H (fun b7 w H=>⟨fun _=>H.ag [0,1,2,3,4,5,6,7] z z,?_⟩))
  refine lZ (i:=1) (j:=5) (li:=#[true,true,true,false,false,false,false,false,true,false]) (lj:=#[true,false,true,false,false,true,false,false,true,false]) z z z z z z (by kernel_rfl) ?_ ?_
  ·refine(au eS z ((cX.calls (H.arg (H.rd h1)) E1).mono ?_))
   rintro _ w ⟨v2,rfl,K⟩
   have H:=H.app K
   refine⟨_,z,⟨fun _=>H.ag [0,1,2,3,4,5,6,7] z z,?_⟩⟩
   refine lZ (i:=3) (j:=5) (li:=#[true,true,true,true,false,false,false,false,true,false]) (lj:=#[true,true,true,false,false,true,false,false,true,false]) z z z z z z (by kernel_rfl) ?_ ?_
   ·refine(au eS z ((cX.calls (H.arg (H.rd h2)) E2).mono ?_))
    rintro _ w ⟨v3,rfl,K⟩
    have H:=H.app K
    refine⟨_,z,⟨fun _=>H.ag [0,1,2,3,4,5,6,7] z z,?_⟩⟩
    have H:St (Rs.ah F_).fp w0 _ [.ah F_,.bO v1,.blk b1 #[sn,sn,sn,sn] 395,.blk b2 #[pt F_.p] 111,.blk b3 #[(.slice p1 n1 c1)] 22,.blk b4 #[(.slice p2 n3 c2)] 22,.blk b5 #[ii a3] 3,.obj b6 (.loop o1),.blk b7 #[sn,sn,sn,sn] 395,.own (.int .u8) 5 v2 x1,.own (.int .u8) 5 v3 x2]:=H
    obtain⟨p3,n4,c3,rfl⟩:=bX (H.Gt 9 z)
    obtain⟨p4,n5,c4,rfl⟩:=bX (H.Gt 10 z)
    refine wg 4 z (H.ag [0,1,2,3,4,5,6,7] z z) (ff (cs:=[(.slice p3 n4 c3),(.slice p4 n5 c4)]) fq z) (wo 5 z (cL (e:=(.int .u8)) (l:=[1]) aN H z (by decide) ⟨z,z,trivial⟩ (by decide) (fun v4 w H=>⟨fun _=>H.ag [0,1,2,3,4,5,6,7] z z,?_⟩)))
    have H:St (Rs.ah F_).fp w0 _ [.ah F_,.bO v1,.blk b1 #[sn,sn,sn,sn] 395,.blk b2 #[pt F_.p] 111,.blk b3 #[(.slice p1 n1 c1)] 22,.blk b4 #[(.slice p2 n3 c2)] 22,.blk b5 #[ii a3] 3,.obj b6 (.loop o1),.blk b7 #[sn,sn,sn,sn] 395,.own (.int .u8) 5 (.slice p3 n4 c3) x1,.own (.int .u8) 5 (.slice p4 n5 c4) x2,.own (.int .u8) 5 v4 ([1])]:=H
    obtain⟨p5,n6,c5,rfl⟩:=bX (H.Gt 11 z)
    refine wg 6 z (H.ag [0,1,2,3,4,5,6,7] z z) (ff (cs:=[sn,(.slice p5 n6 c5)]) fq z) (wg 7 z (H.ag [0,1,2,3,4,5,6,7] z z) (cf (cs:=[(.slice p3 n4 c3),(.slice p4 n5 c4),sn,(.slice p5 n6 c5)]) jE (by kernel_rfl)) ?_)
    have H:St (Rs.ah F_).fp w0 _ [.ah F_,.bO v1,.blk b1 #[sn,sn,sn,sn] 395,.blk b2 #[pt F_.p] 111,.blk b3 #[(.slice p1 n1 c1)] 22,.blk b4 #[(.slice p2 n3 c2)] 22,.blk b5 #[ii a3] 3,.obj b6 (.loop o1),.own (.int .u8) 5 (.slice p3 n4 c3) x1,.own (.int .u8) 5 (.slice p4 n5 c4) x2,.own (.int .u8) 5 (.slice p5 n6 c5) ([1]),.blk b7 #[sn,sn,sn,sn] 395]:=H.ag [0,1,2,3,4,5,6,7,9,10,11,8] z z
    exact cut44 _ _ ⟨_,_,_,_,_,_,_,_,_,_,_,aD ⟨z,z,z,z,z,z,trivial⟩,H⟩
   ·refine(cL (e:=(.int .u8)) (l:=[1]) aN H z (by decide) ⟨z,z,trivial⟩ (by decide) (fun v4 w H=>⟨fun _=>H.ag [0,1,2,3,4,5,6,7] z z,?_⟩))
    have H:St (Rs.ah F_).fp w0 _ [.ah F_,.bO v1,.blk b1 #[sn,sn,sn,sn] 395,.blk b2 #[pt F_.p] 111,.blk b3 #[(.slice p1 n1 c1)] 22,.blk b4 #[(.slice p2 n3 c2)] 22,.blk b5 #[ii a3] 3,.obj b6 (.loop o1),.blk b7 #[sn,sn,sn,sn] 395,.own (.int .u8) 5 v2 x1,.own (.int .u8) 5 v4 ([1])]:=H
    obtain⟨p5,n6,c5,rfl⟩:=bX (H.Gt 10 z)
    refine wg 6 z (H.ag [0,1,2,3,4,5,6,7] z z) (ff (cs:=[sn,(.slice p5 n6 c5)]) fq z) (wo 3 z (au eS z ((cX.calls (H.arg (H.rd h2)) E2).mono ?_)))
    rintro _ w ⟨v3,rfl,K⟩
    have H:=H.app K
    refine⟨_,z,⟨fun _=>H.ag [0,1,2,3,4,5,6,7] z z,?_⟩⟩
    have H:St (Rs.ah F_).fp w0 _ [.ah F_,.bO v1,.blk b1 #[sn,sn,sn,sn] 395,.blk b2 #[pt F_.p] 111,.blk b3 #[(.slice p1 n1 c1)] 22,.blk b4 #[(.slice p2 n3 c2)] 22,.blk b5 #[ii a3] 3,.obj b6 (.loop o1),.blk b7 #[sn,sn,sn,sn] 395,.own (.int .u8) 5 v2 x1,.own (.int .u8) 5 (.slice p5 n6 c5) ([1]),.own (.int .u8) 5 v3 x2]:=H
    obtain⟨p3,n4,c3,rfl⟩:=bX (H.Gt 9 z)
    obtain⟨p4,n5,c4,rfl⟩:=bX (H.Gt 11 z)
    refine wg 4 z (H.ag [0,1,2,3,4,5,6,7] z z) (ff (cs:=[(.slice p3 n4 c3),(.slice p4 n5 c4)]) fq z) (wg 7 z (H.ag [0,1,2,3,4,5,6,7] z z) (cf (cs:=[(.slice p3 n4 c3),(.slice p4 n5 c4),sn,(.slice p5 n6 c5)]) jE (by kernel_rfl)) ?_)
    have H:St (Rs.ah F_).fp w0 _ [.ah F_,.bO v1,.blk b1 #[sn,sn,sn,sn] 395,.blk b2 #[pt F_.p] 111,.blk b3 #[(.slice p1 n1 c1)] 22,.blk b4 #[(.slice p2 n3 c2)] 22,.blk b5 #[ii a3] 3,.obj b6 (.loop o1),.own (.int .u8) 5 (.slice p3 n4 c3) x1,.own (.int .u8) 5 (.slice p4 n5 c4) x2,.own (.int .u8) 5 (.slice p5 n6 c5) ([1]),.blk b7 #[sn,sn,sn,sn] 395]:=H.ag [0,1,2,3,4,5,6,7,9,11,10,8] z z
    exact cut44 _ _ ⟨_,_,_,_,_,_,_,_,_,_,_,aD ⟨z,z,z,z,z,z,trivial⟩,H⟩
  ·refine(cL (e:=(.int .u8)) (l:=[1]) aN H z (by decide) ⟨z,z,trivial⟩ (by decide) (fun v4 w H=>⟨fun _=>H.ag [0,1,2,3,4,5,6,7] z z,?_⟩))
   have H:St (Rs.ah F_).fp w0 _ [.ah F_,.bO v1,.blk b1 #[sn,sn,sn,sn] 395,.blk b2 #[pt F_.p] 111,.blk b3 #[(.slice p1 n1 c1)] 22,.blk b4 #[(.slice p2 n3 c2)] 22,.blk b5 #[ii a3] 3,.obj b6 (.loop o1),.blk b7 #[sn,sn,sn,sn] 395,.own (.int .u8) 5 v4 ([1])]:=H
   obtain⟨p5,n6,c5,rfl⟩:=bX (H.Gt 9 z)
   refine wg 6 z (H.ag [0,1,2,3,4,5,6,7] z z) (ff (cs:=[sn,(.slice p5 n6 c5)]) fq z) (wo 1 z (au eS z ((cX.calls (H.arg (H.rd h1)) E1).mono ?_)))
   rintro _ w ⟨v2,rfl,K⟩
   have H:=H.app K
   refine⟨_,z,⟨fun _=>H.ag [0,1,2,3,4,5,6,7] z z,wo 3 z (au eS z ((cX.calls (H.arg (H.rd h2)) E2).mono ?_))⟩⟩
   rintro _ w ⟨v3,rfl,K⟩
   have H:=H.app K
   refine⟨_,z,⟨fun _=>H.ag [0,1,2,3,4,5,6,7] z z,?_⟩⟩
   have H:St (Rs.ah F_).fp w0 _ [.ah F_,.bO v1,.blk b1 #[sn,sn,sn,sn] 395,.blk b2 #[pt F_.p] 111,.blk b3 #[(.slice p1 n1 c1)] 22,.blk b4 #[(.slice p2 n3 c2)] 22,.blk b5 #[ii a3] 3,.obj b6 (.loop o1),.blk b7 #[sn,sn,sn,sn] 395,.own (.int .u8) 5 (.slice p5 n6 c5) ([1]),.own (.int .u8) 5 v2 x1,.own (.int .u8) 5 v3 x2]:=H
   obtain⟨p3,n4,c3,rfl⟩:=bX (H.Gt 10 z)
   obtain⟨p4,n5,c4,rfl⟩:=bX (H.Gt 11 z)
   refine wg 4 z (H.ag [0,1,2,3,4,5,6,7] z z) (ff (cs:=[(.slice p3 n4 c3),(.slice p4 n5 c4)]) fq z) (wg 7 z (H.ag [0,1,2,3,4,5,6,7] z z) (cf (cs:=[(.slice p3 n4 c3),(.slice p4 n5 c4),sn,(.slice p5 n6 c5)]) jE (by kernel_rfl)) ?_)
   have H:St (Rs.ah F_).fp w0 _ [.ah F_,.bO v1,.blk b1 #[sn,sn,sn,sn] 395,.blk b2 #[pt F_.p] 111,.blk b3 #[(.slice p1 n1 c1)] 22,.blk b4 #[(.slice p2 n3 c2)] 22,.blk b5 #[ii a3] 3,.obj b6 (.loop o1),.own (.int .u8) 5 (.slice p3 n4 c3) x1,.own (.int .u8) 5 (.slice p4 n5 c4) x2,.own (.int .u8) 5 (.slice p5 n6 c5) ([1]),.blk b7 #[sn,sn,sn,sn] 395]:=H.ag [0,1,2,3,4,5,6,7,10,11,9,8] z z
   exact cut44 _ _ ⟨_,_,_,_,_,_,_,_,_,_,_,aD ⟨z,z,z,z,z,z,trivial⟩,H⟩
def nH.f(k:Nat)(a1:List Int)(a2:Int):Option (List Int×List Int×Bool):=bif decide (a2<0)then(some (([]:List Int),([]:List Int),false))else(bif decide ((a1.length:Int)<a2)then(some (([]:List Int),([]:List Int),false))else(an (decide ((0:Int)≤(a1.length:Int)∧(a1.length:Int)≤(a1.length:Int)∧(a1.length:Int)≤140737488355328)) (an (decide (((List.replicate (a1.length:Int).toNat (0:Int)).length+([1]).length)*1≤140737488355328)) ((jH.f k (List.replicate (a1.length:Int).toNat (0:Int)++([1])) a1 (i64.wrap (Int.tdiv (i64.wrap (i64.wrap ((a1.length:Int)+a2)+1)) 2))).bind fun x1=>(jV.f x1.2 0).bind fun x2=>(fN.f x2).bind fun x3=>bif !x3.2 then(some (([]:List Int),([]:List Int),false))else((ky.f k x3.1 x1.2).bind fun x4=>(ky.f k x3.1 x1.1).bind fun x5=>some (x4,x5,true))))))
theorem nH.calls{w0:World}{k:Nat}{F_:FD}{a1:List Int}{a2:Int}{v1_:Value}{r:List Int×List Int×Bool}(hf:(Rs.ah F_).inv w0)(h1:Rd (.of (.int .u8)) w0 (Ol (Rs.ah F_).fp w0) v1_ a1)(E:nH.f k a1 a2=some r):
 Calls aa 220 #[pt F_.p,v1_,ii a2] w0 fun e w'=>∃(u0 u1:Value),e= .returned (.tuple #[u0,u1,.bool r.2.2])∧St (Rs.ah F_).fp w0 w' [.ah F_,.own (.int .u8) 5 u0 r.1,.own (.int .u8) 5 u1 r.2.1]:=by
 have H:=St.start hf
 unfold nH.f at E
 refine aP (N:=59) (args:=[pt F_.p,v1_,ii a2]) Tryz.func220 z z (by simp) ?_
 refine rg (va sn (va sn (va (.bool false) (nl (rg (vm v1_ (vr (aY bI (H.rd h1) z) (va (ii (a1.length:Int)) (nl (ae (rg (vm (pt F_.p) (vr (cV Tryz.underlying111 z z) (vm (.bool false) (oo z z (mv (ii a2) z) (oo z z (aZ z z) (vr (pF (.bool (decide (a2<0))) z z z) (vm (.bool (decide (a2<0))) ?_))))))))))))))))))
 rcases bR (decide (a2<0))with c3|c3
 ·have E:=iT c3 E
  refine ow c3 z (ow c3 z (ow c3 z (vr (pT (.bool true) z z c3) (nl (cl z (rg (va sn (va sn (va (.bool false) (nl (aj ?_)))))))))))
  have H:=H.bB (.int .u8) 5
  have H:=H.bB (.int .u8) 5
  cases E
  exact(aL ⟨.inl z,_,tk0 z ⟨aB z (ad (ad (ad ai))),_,_,z,H.fJ 0 1 2 z z z z z z⟩⟩)
 ·have E:=iF c3 E
  refine oo c3 z (mv (ii a2) z) (oo c3 z (mv (ii (a1.length:Int)) z) (oo c3 z (dy z z) (vr (pF (.bool (decide ((a1.length:Int)<a2))) z z c3) (nl ?_))))
  refine aE E z (fun c4 E=>?_) (fun c4 E=>?_)
  ·refine rg (va sn (va sn (va (.bool false) (nl (aj ?_)))))
   have H:=H.bB (.int .u8) 5
   have H:=H.bB (.int .u8) 5
   cases E
   exact(aL ⟨.inl z,_,tk0 z ⟨aB z (ad (ad (ad ai))),_,_,z,H.fJ 0 1 2 z z z z z z⟩⟩)
  ·refine aA (ab (rg (vm (pt F_.p) (vm (ii (a1.length:Int)) ?_))))
   obtain⟨⟨g6,g7,g8⟩,E⟩:=ar E
   refine ye (ee (e:=(.int .u8)) (z0:=0) aN z H z z g6 g7 (by omega) (by omega) (fun v5 w H=>ye (cL (e:=(.int .u8)) (l:=[1]) aN H z (by decide) ⟨z,z,trivial⟩ (by decide) (fun v9 w H=>?_))))
   obtain⟨g1,E⟩:=ar E
   refine ye (dZ aN H 1 z (ao (H.Gt 2 z)) z z (by omega) (by unfold maxLen;omega) (fun v1 w H=>vm v1_ (vm (ii (a1.length:Int)) (vm (ii a2) (vr (aO z z) (vr (aO z z) (vr (ie z z (by decide)) ?_)))))))
   obtain⟨x1,E1,E⟩:=ay E
   refine ye (au Hs z ((jH.calls (H.Gt 0 z) (H.cb 1 0 z z z (ao (H.Gt 1 z))) (H.cj 0 z (H.rd h1)) E1).mono ?_))
   rintro _ w ⟨v2,v3,rfl,K⟩
   have H:=H.aV 0 z K
   refine⟨_,z,vr cz (vr (aX z z) (vr (aX z z) (va v2 (va v3 (nl (rg (vm (pt F_.p) (vm v3 ?_))))))))⟩
   obtain⟨x2,E2,E⟩:=ay E
   refine ye (au vo z ((jV.calls (H.own 4 z (ao (H.Gt 4 z))) E2).mono ?_))
   rintro _ w ⟨rfl,K⟩
   have H:=H.app K
   refine⟨_,z,?_⟩
   have H:St (Rs.ah F_).fp w0 _ [.ah F_,.own (.int .u8) 5 v1 (List.replicate (a1.length:Int).toNat (0:Int)++([1])),.own (.int .u8) 5 v9 ([1]),.own (.int .u8) 5 v2 x1.1,.own (.int .u8) 5 v3 x1.2]:=H
   obtain⟨x3,E3,E⟩:=ay E
   refine ye (au qX z ((fN.calls (H.Gt 0 z) E3).mono ?_))
   rintro _ w ⟨rfl,K⟩
   have H:=H.aV 0 z K
   refine⟨_,z,vr cz (vr (aX z z) (vr (aX z z) (va (iu x3.1) (va (.bool x3.2) (nl (ae (rg (vm (.bool x3.2) (vr (cp z) (nl ?_))))))))))⟩
   refine aE E z (fun c1 E=>?_) (fun c1 E=>?_)
   ·refine rg (va sn (va sn (va (.bool false) (nl (aj ?_)))))
    have H:=H.bB (.int .u8) 5
    have H:=H.bB (.int .u8) 5
    cases E
    exact(aL ⟨.inl z,_,tk0 z ⟨aB z (ad (ad (ad ai))),_,_,z,H.fJ 0 5 6 z z z z z z⟩⟩)
   ·refine aA (ab (rg (vm (pt F_.p) (vm (iu x3.1) (vm v3 ?_)))))
    obtain⟨x4,E4,E⟩:=ay E
    refine ye (au zu z ((ky.calls (H.Gt 0 z) (H.cb 4 0 z z z (ao (H.Gt 4 z))) E4).mono ?_))
    rintro _ w ⟨v4,rfl,K⟩
    have H:=H.aV 0 z K
    refine⟨_,z,vm (pt F_.p) (vm (iu x3.1) (vm v2 ?_))⟩
    obtain⟨x5,E5,E⟩:=ay E
    refine ye (au zu z ((ky.calls (H.Gt 0 z) (H.cb 3 0 z z z (ao (H.Gt 3 z))) E5).mono ?_))
    rintro _ w ⟨v6,rfl,K⟩
    have H:=H.aV 0 z K
    refine⟨_,z,va v4 (va v6 (va (.bool true) (nl (aj ?_))))⟩
    cases E
    exact⟨.inl z,_,tk0 z ⟨aB z (ad (ad (ad ai))),_,_,z,H.fJ 0 5 6 z z z z z z⟩⟩
def oJ.f(k:Nat)(a0:(Int×Int×Int)×List Int×List Int):Option (List Int×Bool):=(kG.f k ((a0.1.1,a0.1.2.1,a0.1.2.2),a0.2.1,a0.2.2)).bind fun x2=>(nH.f k x2.2.2 (a0.2.2.length:Int)).bind fun x7=>bif !x7.2.2 then(some (([]:List Int),false))else((cZ.f k x7.1 x2.2.1).bind fun x1=>(kH.f k ((a0.1.1,a0.1.2.1,a0.1.2.2),a0.2.1,a0.2.2) x7.2.1 x1).bind fun x3=>some (x3.1,x3.2))
theorem oJ.calls{w0:World}{k:Nat}{F_:FD}{a0:(Int×Int×Int)×List Int×List Int}{v0_4_ v0_5_:Value}{r:List Int×Bool}(hf:(Rs.ah F_).inv w0)(h0_4:Rd (.of (.int .u8)) w0 (Ol (Rs.ah F_).fp w0) v0_4_ a0.2.1)(h0_5:Rd (.of (.int .i64)) w0 (Ol (Rs.ah F_).fp w0) v0_5_ a0.2.2)(E:oJ.f k a0=some r):
 Calls aa 170 #[.agg #[pt F_.p,ii a0.1.1,ii a0.1.2.1,ii a0.1.2.2,v0_4_,v0_5_]] w0 fun e w'=>∃(u0:Value),e= .returned (.tuple #[u0,.bool r.2])∧St (Rs.ah F_).fp w0 w' [.ah F_,.own (.int .u8) 5 u0 r.1]:=by
 have H:=St.start hf
 unfold oJ.f at E
 refine aP (N:=44) (args:=[.agg #[pt F_.p,ii a0.1.1,ii a0.1.2.1,ii a0.1.2.2,v0_4_,v0_5_]]) Tryz.func170 z z (by simp) ?_
 refine rg (ye (bc (cs:=#[pt F_.p,ii a0.1.1,ii a0.1.2.1,ii a0.1.2.2,v0_4_,v0_5_]) H z (fun b1 w H=>va sn (va (.bool false) (nl (rg (vr (az qY z) (vr (bp (l:=[pt F_.p,ii a0.1.1,ii a0.1.2.1,ii a0.1.2.2,v0_4_,v0_5_]) jC (H.Gt 1 z) z z z) ?_))))))))
 obtain⟨x2,E3,E⟩:=ay E
 refine ye (au zn z ((kG.calls (H.Gt 0 z) (H.cj 0 z (H.rd h0_4)) (H.cj 0 z (H.rd h0_5)) E3).mono ?_))
 rintro _ w ⟨v4,v5,v6,rfl,K⟩
 have H:=H.aV 0 z K
 refine⟨_,z,vr cz (vr (aX z z) (vr (aX z z) (vr (aX z z) (va v4 (va v5 (va v6 (nl (rg (vr (az qY z) (vr (az gh z) (vr (av dk z (ak (H.Gt 1 z) z)) (vm v6 (vr (az qY z) (vr (az mn z) (vr (av eU z (ak (H.Gt 1 z) z)) (vr (aY gK (H.rd h0_5) z) ?_))))))))))))))))⟩
 obtain⟨x7,E8,E⟩:=ay E
 refine ye (au Hc z ((nH.calls (H.Gt 0 z) (H.cb 4 0 z z z (ao (H.Gt 4 z))) E8).mono ?_))
 rintro _ w ⟨v9,v1,rfl,K⟩
 have H:=H.aV 0 z K
 refine⟨_,z,vr cz (vr (aX z z) (vr (aX z z) (vr (aX z z) (va v9 (va v1 (va (.bool x7.2.2) (nl (ae (rg (vm (.bool x7.2.2) (vr (cp z) (nl ?_))))))))))))⟩
 refine aE E z (fun c1 E=>?_) (fun c1 E=>?_)
 ·refine rg (va sn (va (.bool false) (nl (aj ?_))))
  have H:=H.bB (.int .u8) 5
  cases E
  exact(aL ⟨.inl z,_,tk0 z ⟨aB z (ad (ad ai)),_,z,H.bN 0 7 z z z⟩⟩)
 ·refine aA (ab (ae (cd (ds:=[]) bZ H z z ?_)))
  have H:=H.drew
  refine wg 0 z H (az qY z) (wz 1 z H (fun w H=>bp (l:=[pt F_.p,ii a0.1.1,ii a0.1.2.1,ii a0.1.2.2,v0_4_,v0_5_]) jC (H.Gt 1 z) z z z) (wm 2 z H v1 (wg 3 z H (az qY z) (wg 4 z H (az gh z) (wz 5 z H (fun w H=>av dk z (ak (H.Gt 1 z) z)) (wm 6 z H v9 (wm 7 z H v5 ?_)))))))
  obtain⟨x1,E1,E⟩:=ay E
  refine wo 8 z (au qV z ((cZ.calls (H.Gt 0 z) (H.cb 5 0 z z z (ao (H.Gt 5 z))) (H.cb 3 0 z z z (ao (H.Gt 3 z))) E1).mono ?_))
  rintro _ w ⟨v2,rfl,K⟩
  have H:=H.aV 0 z K
  refine⟨_,z,⟨fun _=>H.ag [0,1,2,3,4,5,6] z z,?_⟩⟩
  obtain⟨x3,E2,E⟩:=ay E
  refine wo 9 z (au zo z ((kH.calls (H.Gt 0 z) (H.cj 0 z (H.rd h0_4)) (H.cj 0 z (H.rd h0_5)) (H.cb 6 0 z z z (ao (H.Gt 6 z))) (H.cb 7 0 z z z (ao (H.Gt 7 z))) E2).mono ?_))
  rintro _ w ⟨v3,rfl,K⟩
  have H:=H.aV 0 z K
  refine⟨_,z,⟨fun _=>H.ag [0,1,2,3,4,5,6] z z,?_⟩⟩
  have H:St (Rs.ah F_).fp w0 _ [.ah F_,.blk b1 #[pt F_.p,ii a0.1.1,ii a0.1.2.1,ii a0.1.2.2,v0_4_,v0_5_] 264,.own (.int .u8) 5 v4 x2.1,.own (.int .u8) 5 v5 x2.2.1,.own (.int .u8) 5 v6 x2.2.2,.own (.int .u8) 5 v9 x7.1,.own (.int .u8) 5 v1 x7.2.1,.own (.int .u8) 5 v2 x1,.own (.int .u8) 5 v3 x3.1]:=H
  refine wg 10 z (H.ag [0,1,2,3,4,5,6] z z) (aX z z) (wg 11 z (H.ag [0,1,2,3,4,5,6] z z) (aX z z) (wy 12 z (H.ag [0,1,2,3,4,5,6] z z) (sg v3 z) (wg 13 z (H.ag [0,1,2,3,4,5,6] z z) (sg (.bool x3.2) z) (wd (ab (aj ?_))))))
  cases E
  exact⟨.inl z,_,tk0 z ⟨aB z (ad (ad ai)),_,z,H.bN 0 8 z z z⟩⟩
end Go.Proofs.YtmhkpafkadijgaaGreatDoor.Gw
