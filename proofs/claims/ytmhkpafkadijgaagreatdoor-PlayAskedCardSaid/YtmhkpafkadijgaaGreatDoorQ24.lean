/- A part of the proof of Rows.PlayAskedCardSaid; the conditions are that card's own. -/
import Derived.Test.YtmhkpafkadijgaaGreatDoorQ23
set_option linter.all false
set_option maxRecDepth 100000
set_option maxHeartbeats 4000000
namespace Go.Proofs.YtmhkpafkadijgaaGreatDoor.Gw
open Go Go.RowKit
variable[de]
open Go.IntKind (i8 i16 i32 i64 u8 u16 u32 u64)
open Tryz renaming prog → aa
theorem lq:Ag aa 24 3:=⟨_,Tryz.underlying24,z,by kernel_rfl⟩
theorem Gd:En aa 67:=⟨_,_,Tryz.func67,by kernel_rfl,z⟩
theorem oX:Ag aa 60 2:=⟨_,Tryz.underlying60,z,by kernel_rfl⟩
theorem yO:En aa 69:=⟨_,_,Tryz.func69,by kernel_rfl,z⟩
theorem yK:En aa 101:=⟨_,_,Tryz.func101,by kernel_rfl,z⟩
theorem Gf:Fa aa 24 1 1:=⟨_,_,Tryz.underlying24,z,z,0,by kernel_rfl⟩
theorem yL:En aa 102:=⟨_,_,Tryz.func102,by kernel_rfl,z⟩
theorem yS:Sz aa 60 2:=by show _=_;kernel_rfl
theorem oY:Fa aa 60 1 1:=⟨_,_,Tryz.underlying60,z,z,0,by kernel_rfl⟩
theorem yP:Fa aa 121 0 0:=⟨_,_,Tryz.underlying121,z,z,19,by kernel_rfl⟩
theorem yH:Ar aa 114 4 5:=⟨_,Tryz.underlying114,by kernel_rfl⟩
theorem yM:En aa 104:=⟨_,_,Tryz.func104,by kernel_rfl,z⟩
theorem F7:En aa 103:=⟨_,_,Tryz.func103,by kernel_rfl,z⟩
theorem Gh:Zr aa 33 #[sn,sn,sn]:=⟨.agg #[sn,sn,sn],by kernel_rfl,z⟩
theorem sE:Bd aa 33 #[sn,sn,sn] [(0,1),(1,1),(2,1)]:=⟨_,.agg #[sn,sn,sn],Tryz.underlying33,by kernel_rfl,z,fun w=>by kernel_rfl⟩
theorem qI:Sz aa 33 3:=by show _=_;kernel_rfl
theorem qH:Ag aa 33 3:=⟨_,Tryz.underlying33,z,by kernel_rfl⟩
theorem Ge:Fa aa 24 0 0:=⟨_,_,Tryz.underlying24,z,z,0,by kernel_rfl⟩
theorem F8:En aa 106:=⟨_,_,Tryz.func106,by kernel_rfl,z⟩
theorem Gg:((#[28]:Array TypeId)[0]?).bind Tryz.prog.underlying=some (.slice 3):=iD Tryz.underlying28
theorem uZ:Fa aa 60 0 0:=⟨_,_,Tryz.underlying60,z,z,0,by kernel_rfl⟩
theorem yQ:Fa aa 121 1 20:=⟨_,_,Tryz.underlying121,z,z,15,by kernel_rfl⟩
theorem yJ:Ar aa 119 4 4:=⟨_,Tryz.underlying119,by kernel_rfl⟩
theorem yI:Ar aa 118 4 1:=⟨_,Tryz.underlying118,by kernel_rfl⟩
theorem F9:En aa 107:=⟨_,_,Tryz.func107,by kernel_rfl,z⟩
theorem Ga:En aa 108:=⟨_,_,Tryz.func108,by kernel_rfl,z⟩
theorem Gb:En aa 109:=⟨_,_,Tryz.func109,by kernel_rfl,z⟩
theorem Gc:En aa 125:=⟨_,_,Tryz.func125,by kernel_rfl,z⟩
def lu.f(a0:Int×Int×Int)(a1:Int×Int):Option (Int):=(dh.f (a0.1,a0.2.1,a0.2.2)).bind fun x3=>bif !decide (x3=0)then(some x3)else((jS.f (a1.1,a1.2)).bind fun x6=>some x6)
theorem lu.calls{w0:World}{a0:Int×Int×Int}{a1:Int×Int}{r:Int}(E:lu.f a0 a1=some r):
 Calls aa 101 #[.agg #[ii a0.1,ii a0.2.1,ii a0.2.2],.agg #[ii a1.1,ii a1.2]] w0 fun e w'=>e= .returned (.int .u16 r)∧St no w0 w' []:=by
 have H:=St.nil no w0
 unfold lu.f at E
 refine aP (N:=13) (args:=[.agg #[ii a0.1,ii a0.2.1,ii a0.2.2],.agg #[ii a1.1,ii a1.2]]) Tryz.func101 z z (by simp) ?_
 refine rg (ye (bc (cs:=#[ii a0.1,ii a0.2.1,ii a0.2.2]) H z (fun b1 w H=>ye (bc (cs:=#[ii a1.1,ii a1.2]) H z (fun b2 w H=>va (.int .u16 0) (nl (ae (rg (vr (bp (l:=[ii a0.1,ii a0.2.1,ii a0.2.2]) lq (H.Gt 0 z) z z z) ?_)))))))))
 obtain⟨x3,E4,E⟩:=ay E
 refine ye (au Gd z ((dh.calls E4).mono ?_))
 rintro _ w ⟨rfl,K⟩
 have H:=H.app K
 refine⟨_,z,va (.int .u16 x3) (nl (rg (vm (.int .u16 x3) (vr (cx z z) (nl ?_)))))⟩
 refine aE E z (fun c5 E=>?_) (fun c5 E=>?_)
 ·refine rg (vm (.int .u16 x3) (va (.int .u16 x3) (nl (aj ?_))))
  cases E
  exact(aL ⟨.inl z,_,tk0 z ⟨aB z (ad ai),z,H.bs⟩⟩)
 ·refine aA (ab (rg (vr (bp (l:=[ii a1.1,ii a1.2]) oX (H.Gt 1 z) z z z) ?_)))
  obtain⟨x6,E7,E⟩:=ay E
  refine ye (au yO z ((jS.calls E7).mono ?_))
  rintro _ w ⟨rfl,K⟩
  have H:=H.app K
  refine⟨_,z,va (.int .u16 x6) (nl (aj ?_))⟩
  cases E
  exact⟨.inl z,_,tk0 z ⟨aB z (ad ai),z,H.bs⟩⟩
def qO.f(k:Nat)(n0_:List Int)(a1:Int×Int×Int)(a2:Int×Int)(a3:List Int):Option ((List Int×Int)×List Int):=(lu.f (a1.1,a1.2.1,a1.2.2) (a2.1,a2.2)).bind fun x6=>bif !decide (x6=0)then(some ((([]:List Int),x6),n0_))else(bif !decide ((a3.length:Int)=a1.2.1)then(some ((([]:List Int),12),n0_))else((dz.f (a1.1,a1.2.1,a1.2.2) 0 (a2.1,a2.2)).bind fun x1=>an (decide ((0:Int)≤x1.1.2∧x1.1.2<4)) (an (decide (x1.1.2=1∨x1.1.2=2∨x1.1.2=3)) ((kq.f k (a1.1,a1.2.1,a1.2.2) a3).bind fun x2=>some ((x2.1,x2.2),n0_)))))
theorem qO.calls{w0:World}{k b0_:Nat}{d0_:DS}{n0_:List Int}{a1:Int×Int×Int}{a2:Int×Int}{a3:List Int}{v3_:Value}{r:(List Int×Int)×List Int}(hf:(Rs.gd b0_ d0_ n0_).inv w0)(h3:Rd (.of (.int .u8)) w0 (Ol (Rs.gd b0_ d0_ n0_).fp w0) v3_ a3)(E:qO.f k n0_ a1 a2 a3=some r):
 Calls aa 71 #[pt b0_,.agg #[ii a1.1,ii a1.2.1,ii a1.2.2],.agg #[ii a2.1,ii a2.2],v3_] w0 fun e w'=>∃(m_:DS)(u0:Value),e= .returned (.tuple #[u0,.int .u16 r.1.2])∧St (Rs.gd b0_ d0_ n0_).fp w0 w' [.gd b0_ m_ r.2,.own (.int .u8) 5 u0 r.1.1]:=by
 have H:=St.start hf
 unfold qO.f at E
 refine aP (N:=44) (args:=[pt b0_,.agg #[ii a1.1,ii a1.2.1,ii a1.2.2],.agg #[ii a2.1,ii a2.2],v3_]) Tryz.func71 z z (by simp) ?_
 refine rg (ye (bc (cs:=#[ii a1.1,ii a1.2.1,ii a1.2.2]) H z (fun b1 w H=>ye (bc (cs:=#[ii a2.1,ii a2.2]) H z (fun b2 w H=>va sn (va (.int .u16 0) (nl (ae (rg (vm (pt b0_) (vr (cV Tryz.underlying57 z z) (nl (bS z (aA (ab (ae (rg (vr (bp (l:=[ii a1.1,ii a1.2.1,ii a1.2.2]) lq (H.Gt 1 z) z z z) (vr (bp (l:=[ii a2.1,ii a2.2]) oX (H.Gt 2 z) z z z) ?_)))))))))))))))))))
 obtain⟨x6,E7,E⟩:=ay E
 refine ye (au yK z ((lu.calls E7).mono ?_))
 rintro _ w ⟨rfl,K⟩
 have H:=H.app K
 refine⟨_,z,va (.int .u16 x6) (nl (rg (vm (.int .u16 x6) (vr (cx z z) (nl ?_)))))⟩
 refine aE E z (fun c8 E=>?_) (fun c8 E=>?_)
 ·refine rg (vm (.int .u16 x6) (va sn (va (.int .u16 x6) (nl (aj ?_)))))
  have H:=H.bB (.int .u8) 5
  cases E
  exact(aL ⟨.inl z,_,tk0 z ⟨aB z (ad (ad ai)),_,_,z,H.bN 0 3 z z z⟩⟩)
 ·refine aA (ab (ae (rg (vm v3_ (vr (aY tp (H.rd h3) z) (vr (az Gf z) (vr (av jO z (ak (H.Gt 1 z) z)) (vr (cx z z) (nl ?_)))))))))
  refine aE E z (fun c1 E=>?_) (fun c1 E=>?_)
  ·refine rg (va sn (va (.int .u16 12) (nl (aj ?_))))
   have H:=H.bB (.int .u8) 5
   cases E
   exact(aL ⟨.inl z,_,tk0 z ⟨aB z (ad (ad ai)),_,_,z,H.bN 0 3 z z z⟩⟩)
  ·refine aA (ab (rg (vr (bp (l:=[ii a1.1,ii a1.2.1,ii a1.2.2]) lq (H.Gt 1 z) z z z) (vr (bp (l:=[ii a2.1,ii a2.2]) oX (H.Gt 2 z) z z z) ?_))))
   obtain⟨x1,E1,E⟩:=ay E
   refine ye (au yL z ((dz.calls E1).mono ?_))
   rintro _ w ⟨rfl,K⟩
   have H:=H.app K
   refine⟨_,z,vr cz (vr (aX z z) (vr (aX z z) (s_ (cy yS H 2 z z z z z z (fun w H=>nl (ae (eZ (ds:=[]) (fun w=>∃(d':DS)(n':List Int),St (Rs.gd b0_ d0_ n0_).fp w0 w [.gd b0_ d' n',.blk b1 #[ii a1.1,ii a1.2.1,ii a1.2.2] 24,.blk b2 #[ii x1.1.1,ii x1.1.2] 60]) pL H z z ?_)))))))⟩
   have H:=H.drew
   have H:St (Rs.gd b0_ d0_ n0_).fp w0 _ [.gd b0_ d0_ n0_,.blk b1 #[ii a1.1,ii a1.2.1,ii a1.2.2] 24,.blk b2 #[ii x1.1.1,ii x1.1.2] 60]:=H
   refine wm 0 z ⟨_,_,H⟩ (pt b0_) (wg 1 z ⟨_,_,H⟩ (az oY z) (wz 2 z ⟨_,_,H⟩ (fun w ⟨d',n',H⟩=>av jO z (ak (H.Gt 2 z) z)) (wg 3 z ⟨_,_,H⟩ (bw z) (wg 4 z ⟨_,_,H⟩ (az yP z) ?_))))
   obtain⟨⟨g1,g2⟩,E⟩:=ar E
   refine wg 5 z ⟨_,_,H⟩ (dm yH z z g1 g2) (wg 6 z ⟨_,_,H⟩ (az oY z) (wz 7 z ⟨_,_,H⟩ (fun w ⟨d',n',H⟩=>av jO z (ak (H.Gt 2 z) z)) (wz 9 z ⟨_,_,H⟩ (fun w ⟨d',n',H⟩=>bp (l:=[ii a1.1,ii a1.2.1,ii a1.2.2]) lq (H.Gt 1 z) z z z) (wm 10 z ⟨_,_,H⟩ v3_ ?_))))
   obtain⟨g3,E⟩:=ar E
   refine wo 8 z (Eb H 0 z yM z z g3 (fun f1 d1 w hf1 H=>⟨fun _=>⟨_,_,H.ag [0,1,2] z z⟩,?_⟩))
   obtain⟨x2,E2,E⟩:=ay E
   refine wo 11 z (au F7 z ((kq.calls (Am (H.Gt 0 z) hf1) (wU hf1 (H.cj 0 z (H.rd h3))) E2).mono ?_))
   rintro _ w ⟨v1,rfl,K⟩
   have H:=H.yu 0 z hf1 K
   refine⟨_,z,⟨fun _=>⟨_,_,H.ag [0,1,2] z z⟩,wg 12 z ⟨_,_,H.ag [0,1,2] z z⟩ (aX z z) (wg 13 z ⟨_,_,H.ag [0,1,2] z z⟩ (aX z z) (wy 14 z (⟨_,_,H.ag [0,1,2] z z⟩) (sg v1 z) (wg 15 z ⟨_,_,H.ag [0,1,2] z z⟩ (sg (.int .u16 x2.2) z) (wd (ab (aj ?_))))))⟩⟩
   cases E
   exact⟨.inl z,_,tk0 z ⟨aB z (ad (ad ai)),_,_,z,H.bN 0 3 z z z⟩⟩
def mi.f(k:Nat)(n0_:List Int)(a1:Int×Int×Int)(a2:Int×Int)(a3 a4:List Int):Option (((List Int×List Int×List Int)×Int)×List Int):=(lu.f (a1.1,a1.2.1,a1.2.2) (a2.1,a2.2)).bind fun x7=>bif !decide (x7=0)then(some (((([]:List Int),([]:List Int),([]:List Int)),x7),n0_))else(bif !decide ((a3.length:Int)=a1.1)then(some (((([]:List Int),([]:List Int),([]:List Int)),12),n0_))else((dA.f k (a1.1,a1.2.1,a1.2.2) a4).bind fun x1=>bif !decide (x1=0)then(some (((([]:List Int),([]:List Int),([]:List Int)),x1),n0_))else((dz.f (a1.1,a1.2.1,a1.2.2) (a4.length:Int) (a2.1,a2.2)).bind fun x2=>an (decide ((0:Int)≤x2.1.1∧x2.1.1<4)) (an (decide ((0:Int)≤x2.1.2∧x2.1.2<4)) (an (decide ((0:Int)≤x2.1.2∧x2.1.2<4)) (an (decide (x2.1.2=1∨x2.1.2=2∨x2.1.2=3)) ((jY.f k x2.1.1 (a1.1,a1.2.1,a1.2.2) a3 a4).bind fun x3=>bif !x3.2 then(some (((([]:List Int),([]:List Int),([]:List Int)),14),n0_.set (cW x2.1.1 x2.1.2).toNat (i64.wrap (at_ 0 n0_ (cW x2.1.1 x2.1.2)+1))))else((iG.f k (a1.1,a1.2.1,a1.2.2) a3 x3.1).bind fun x4=>some (((x4.1.1,x4.1.2.1,x4.1.2.2),x4.2),n0_.set (cW x2.1.1 x2.1.2).toNat (i64.wrap (at_ 0 n0_ (cW x2.1.1 x2.1.2)+1)))))))))))
theorem mi.calls{w0:World}{k b0_:Nat}{d0_:DS}{n0_:List Int}{a1:Int×Int×Int}{a2:Int×Int}{a3 a4:List Int}{v3_ v4_:Value}{r:((List Int×List Int×List Int)×Int)×List Int}(hf:(Rs.gd b0_ d0_ n0_).inv w0)(h3:Rd (.of (.int .u8)) w0 (Ol (Rs.gd b0_ d0_ n0_).fp w0) v3_ a3)(h4:Rd (.of (.int .i64)) w0 (Ol (Rs.gd b0_ d0_ n0_).fp w0) v4_ a4)(E:mi.f k n0_ a1 a2 a3 a4=some r):
 Calls aa 73 #[pt b0_,.agg #[ii a1.1,ii a1.2.1,ii a1.2.2],.agg #[ii a2.1,ii a2.2],v3_,v4_] w0 fun e w'=>∃(m_:DS)(u0_0 u0_1 u0_2:Value),e= .returned (.tuple #[.agg #[u0_0,u0_1,u0_2],.int .u16 r.1.2])∧St (Rs.gd b0_ d0_ n0_).fp w0 w' [.gd b0_ m_ r.2,.own (.int .u8) 5 u0_0 r.1.1.1,.own (.int .u8) 5 u0_1 r.1.1.2.1,.own (.int .i64) 3 u0_2 r.1.1.2.2]:=by
 have H:=St.start hf
 unfold mi.f at E
 refine aP (N:=84) (args:=[pt b0_,.agg #[ii a1.1,ii a1.2.1,ii a1.2.2],.agg #[ii a2.1,ii a2.2],v3_,v4_]) Tryz.func73 z z (by simp) ?_
 refine rg (ye (bc (cs:=#[ii a1.1,ii a1.2.1,ii a1.2.2]) H z (fun b1 w H=>ye (bc (cs:=#[ii a2.1,ii a2.2]) H z (fun b2 w H=>ye (cr Gh H (fun b3 w H=>va (.int .u16 0) (nl (ae (rg (vm (pt b0_) (vr (cV Tryz.underlying57 z z) (nl (bS z (aA (ab (ae (rg (vr (bp (l:=[ii a1.1,ii a1.2.1,ii a1.2.2]) lq (H.Gt 1 z) z z z) (vr (bp (l:=[ii a2.1,ii a2.2]) oX (H.Gt 2 z) z z z) ?_))))))))))))))))))))
 obtain⟨x7,E8,E⟩:=ay E
 refine ye (au yK z ((lu.calls E8).mono ?_))
 rintro _ w ⟨rfl,K⟩
 have H:=H.app K
 refine⟨_,z,va (.int .u16 x7) (nl (rg (vm (.int .u16 x7) (vr (cx z z) (nl ?_)))))⟩
 refine aE E z (fun c9 E=>?_) (fun c9 E=>?_)
 ·refine rg (vr (cf (cs:=[sn,sn,sn]) sE z) (vm (.int .u16 x7) (s_ (cy qI H 3 z z z z z z (fun w H=>?_)))))
  have H:St (Rs.gd b0_ d0_ n0_).fp w0 _ [.gd b0_ d0_ n0_,.blk b1 #[ii a1.1,ii a1.2.1,ii a1.2.2] 24,.blk b2 #[ii a2.1,ii a2.2] 60,.blk b3 #[sn,sn,sn] 33]:=H
  refine va (.int .u16 x7) (nl (aj ?_))
  have H:=H.bB (.int .u8) 5
  have H:=H.bB (.int .u8) 5
  have H:=H.bB (.int .i64) 3
  cases E
  exact(aL ⟨.inl z,_,tk0 z ⟨aB z (dL z qH (eG (n:=3) (H.Gt 3 z) z) z (ad ai)),_,_,_,_,z,H.ag [0,4,5,6] z z⟩⟩)
 ·refine aA (ab (ae (rg (vm v3_ (vr (aY tp (H.rd h3) z) (vr (az Ge z) (vr (av jO z (ak (H.Gt 1 z) z)) (vr (cx z z) (nl ?_)))))))))
  refine aE E z (fun c1 E=>?_) (fun c1 E=>?_)
  ·refine rg (vr (cf (cs:=[sn,sn,sn]) sE z) (s_ (cy qI H 3 z z z z z z (fun w H=>?_))))
   have H:St (Rs.gd b0_ d0_ n0_).fp w0 _ [.gd b0_ d0_ n0_,.blk b1 #[ii a1.1,ii a1.2.1,ii a1.2.2] 24,.blk b2 #[ii a2.1,ii a2.2] 60,.blk b3 #[sn,sn,sn] 33]:=H
   refine va (.int .u16 12) (nl (aj ?_))
   have H:=H.bB (.int .u8) 5
   have H:=H.bB (.int .u8) 5
   have H:=H.bB (.int .i64) 3
   cases E
   exact(aL ⟨.inl z,_,tk0 z ⟨aB z (dL z qH (eG (n:=3) (H.Gt 3 z) z) z (ad ai)),_,_,_,_,z,H.ag [0,4,5,6] z z⟩⟩)
  ·refine aA (ab (ae (rg (vr (bp (l:=[ii a1.1,ii a1.2.1,ii a1.2.2]) lq (H.Gt 1 z) z z z) (vm v4_ ?_)))))
   obtain⟨x1,E1,E⟩:=ay E
   refine ye (au F8 z ((dA.calls (H.arg (H.rd h4)) E1).mono ?_))
   rintro _ w ⟨rfl,K⟩
   have H:=H.app K
   refine⟨_,z,?_⟩
   have H:St (Rs.gd b0_ d0_ n0_).fp w0 _ [.gd b0_ d0_ n0_,.blk b1 #[ii a1.1,ii a1.2.1,ii a1.2.2] 24,.blk b2 #[ii a2.1,ii a2.2] 60,.blk b3 #[sn,sn,sn] 33]:=H
   refine va (.int .u16 x1) (nl (rg (vm (.int .u16 x1) (vr (cx z z) (nl ?_)))))
   refine aE E z (fun c2 E=>?_) (fun c2 E=>?_)
   ·refine rg (vr (cf (cs:=[sn,sn,sn]) sE z) (vm (.int .u16 x1) (s_ (cy qI H 3 z z z z z z (fun w H=>va (.int .u16 x1) (nl (aj ?_)))))))
    have H:=H.bB (.int .u8) 5
    have H:=H.bB (.int .u8) 5
    have H:=H.bB (.int .i64) 3
    cases E
    exact(aL ⟨.inl z,_,tk0 z ⟨aB z (dL z qH (eG (n:=3) (H.Gt 3 z) z) z (ad ai)),_,_,_,_,z,H.ag [0,4,5,6] z z⟩⟩)
   ·refine aA (ab (rg (vr (bp (l:=[ii a1.1,ii a1.2.1,ii a1.2.2]) lq (H.Gt 1 z) z z z) (vm v4_ (vr (aY Gg (H.rd h4) z) (vr (bp (l:=[ii a2.1,ii a2.2]) oX (H.Gt 2 z) z z z) ?_))))))
    obtain⟨x2,E2,E⟩:=ay E
    refine ye (au yL z ((dz.calls E2).mono ?_))
    rintro _ w ⟨rfl,K⟩
    have H:=H.app K
    refine⟨_,z,vr cz (vr (aX z z) (vr (aX z z) (s_ (cy yS H 2 z z z z z z (fun w H=>nl (ae (eZ (ds:=[]) (fun w=>∃(d':DS)(n':List Int),St (Rs.gd b0_ d0_ n0_).fp w0 w [.gd b0_ d' n',.blk b1 #[ii a1.1,ii a1.2.1,ii a1.2.2] 24,.blk b2 #[ii x2.1.1,ii x2.1.2] 60,.blk b3 #[sn,sn,sn] 33]) pL H z z ?_)))))))⟩
    have H:=H.drew
    refine wm 0 z ⟨_,_,H⟩ (pt b0_) (wg 1 z ⟨_,_,H⟩ (az uZ z) (wz 2 z ⟨_,_,H⟩ (fun w ⟨d',n',H⟩=>av jO z (ak (H.Gt 2 z) z)) (wg 3 z ⟨_,_,H⟩ (az oY z) (wz 4 z ⟨_,_,H⟩ (fun w ⟨d',n',H⟩=>av jO z (ak (H.Gt 2 z) z)) (wg 5 z ⟨_,_,H⟩ (bw z) (wg 6 z ⟨_,_,H⟩ (az yQ z) ?_))))))
    obtain⟨⟨g1,g2⟩,E⟩:=ar E
    refine wg 7 z ⟨_,_,H⟩ (dm yJ z z g1 g2) ?_
    obtain⟨⟨g3,g4⟩,E⟩:=ar E
    refine wg 8 z ⟨_,_,H⟩ (dm yI z z g3 g4) (wo 9 z (QS H 0 z F9 z z g1 g2 g3 g4 (fun w H=>⟨fun _=>⟨_,_,H.ag [0,1,2,3] z z⟩,wd (ab (ae (eZ (ds:=[]) (fun w=>∃(d':DS)(n':List Int),St (Rs.gd b0_ d0_ n0_).fp w0 w [.gd b0_ d' n',.blk b1 #[ii a1.1,ii a1.2.1,ii a1.2.2] 24,.blk b2 #[ii x2.1.1,ii x2.1.2] 60,.blk b3 #[sn,sn,sn] 33]) pL H z z ?_)))⟩)))
    have H:=H.drew
    refine wg 0 z ⟨_,_,H⟩ (az uZ z) (wz 1 z ⟨_,_,H⟩ (fun w ⟨d',n',H⟩=>av jO z (ak (H.Gt 2 z) z)) (wm 2 z ⟨_,_,H⟩ (pt b0_) (wg 3 z ⟨_,_,H⟩ (az oY z) (wz 4 z ⟨_,_,H⟩ (fun w ⟨d',n',H⟩=>av jO z (ak (H.Gt 2 z) z)) (wg 5 z ⟨_,_,H⟩ (bw z) (wg 6 z ⟨_,_,H⟩ (az yP z) ?_))))))
    obtain⟨⟨g5,g6⟩,E⟩:=ar E
    refine wg 7 z ⟨_,_,H⟩ (dm yH z z g5 g6) (wg 8 z ⟨_,_,H⟩ (az oY z) (wz 9 z ⟨_,_,H⟩ (fun w ⟨d',n',H⟩=>av jO z (ak (H.Gt 2 z) z)) (wz 11 z ⟨_,_,H⟩ (fun w ⟨d',n',H⟩=>bp (l:=[ii a1.1,ii a1.2.1,ii a1.2.2]) lq (H.Gt 1 z) z z z) (wm 12 z ⟨_,_,H⟩ v3_ (wm 13 z ⟨_,_,H⟩ v4_ ?_)))))
    obtain⟨g7,E⟩:=ar E
    refine wo 10 z (Eb H 0 z yM z z g7 (fun f1 d1 w hf1 H=>⟨fun _=>⟨_,_,H.ag [0,1,2,3] z z⟩,?_⟩))
    obtain⟨x3,E3,E⟩:=ay E
    refine wo 14 z (au Ga z ((jY.calls (Am (H.Gt 0 z) hf1) (wU hf1 (H.cj 0 z (H.rd h3))) (wU hf1 (H.cj 0 z (H.rd h4))) E3).mono ?_))
    rintro _ w ⟨v1,rfl,K⟩
    have H:=H.yu 0 z hf1 K
    refine⟨_,z,⟨fun _=>⟨_,_,H.ag [0,1,2,3] z z⟩,?_⟩⟩
    have H:St (Rs.gd b0_ d0_ n0_).fp w0 _ [.gd b0_ d1 (n0_.set (cW x2.1.1 x2.1.2).toNat (i64.wrap (at_ 0 n0_ (cW x2.1.1 x2.1.2)+1))),.blk b1 #[ii a1.1,ii a1.2.1,ii a1.2.2] 24,.blk b2 #[ii x2.1.1,ii x2.1.2] 60,.blk b3 #[sn,sn,sn] 33,.own (.int .u8) 5 v1 x3.1]:=H
    refine wg 15 z ⟨_,_,H.ag [0,1,2,3] z z⟩ cz (wg 16 z ⟨_,_,H.ag [0,1,2,3] z z⟩ (aX z z) (wg 17 z ⟨_,_,H.ag [0,1,2,3] z z⟩ (aX z z) (wy 18 z (⟨_,_,H.ag [0,1,2,3] z z⟩) (sg v1 z) (wg 19 z ⟨_,_,H.ag [0,1,2,3] z z⟩ (sg (.bool x3.2) z) (wd (ab (ae (rg (vm (.bool x3.2) (vr (cp z) (nl ?_)))))))))))
    refine aE E z (fun c3 E=>?_) (fun c3 E=>?_)
    ·refine rg (vr (cf (cs:=[sn,sn,sn]) sE z) (s_ (cy qI H 3 z z z z z z (fun w H=>va (.int .u16 14) (nl (aj ?_))))))
     have H:=H.bB (.int .u8) 5
     have H:=H.bB (.int .u8) 5
     have H:=H.bB (.int .i64) 3
     cases E
     exact(aL ⟨.inl z,_,tk0 z ⟨aB z (dL z qH (eG (n:=3) (H.Gt 3 z) z) z (ad ai)),_,_,_,_,z,H.ag [0,5,6,7] z z⟩⟩)
    ·refine aA (ab (rg (vr (bp (l:=[ii a1.1,ii a1.2.1,ii a1.2.2]) lq (H.Gt 1 z) z z z) (vm v3_ (vm v1 ?_)))))
     obtain⟨x4,E4,E⟩:=ay E
     refine ye (au Gb z ((iG.calls (H.arg (H.rd h3)) (H.own 4 z (ao (H.Gt 4 z))) E4).mono ?_))
     rintro _ w ⟨v2,v3,v4,rfl,K⟩
     have H:=H.app K
     refine⟨_,z,vr (aX z z) (vr (aX z z) ?_)⟩
     obtain⟨p1,n1,c4,rfl⟩:=bX (H.Gt 5 z)
     obtain⟨p2,n2,c5,rfl⟩:=bX (H.Gt 6 z)
     obtain⟨p3,n3,c6,rfl⟩:=bX (H.Gt 7 z)
     refine s_ (cy qI H 3 z z z z z z (fun w H=>va (.int .u16 x4.2) (nl (aj ?_))))
     cases E
     exact⟨.inl z,_,tk0 z ⟨aB z (dL z qH (eG (n:=3) (H.Gt 3 z) z) z (ad ai)),_,_,_,_,z,H.ag [0,5,6,7] z z⟩⟩
def qN.f(n0_:List Int)(a1:Int×Int):Option ((Int)×List Int):=(jS.f (a1.1,a1.2)).bind fun x5=>bif !decide (x5=0)then(some (0,n0_))else(an (decide ((0:Int)≤a1.1∧a1.1<4)) (an (decide ((0:Int)≤a1.2∧a1.2<4)) (some (at_ 0 n0_ (cW a1.1 a1.2),n0_))))
theorem qN.calls{w0:World}{b0_:Nat}{d0_:DS}{n0_:List Int}{a1:Int×Int}{r:(Int)×List Int}(hf:(Rs.gd b0_ d0_ n0_).inv w0)(E:qN.f n0_ a1=some r):
 Calls aa 84 #[pt b0_,.agg #[ii a1.1,ii a1.2]] w0 fun e w'=>∃(m_:DS),e= .returned (ii r.1)∧St (Rs.gd b0_ d0_ n0_).fp w0 w' [.gd b0_ m_ r.2]:=by
 have H:=St.start hf
 unfold qN.f at E
 refine aP (N:=22) (args:=[pt b0_,.agg #[ii a1.1,ii a1.2]]) Tryz.func84 z z (by simp) ?_
 refine rg (ye (bc (cs:=#[ii a1.1,ii a1.2]) H z (fun b1 w H=>va (ii 0) (nl (ae (rg (vm (pt b0_) (vr (cV Tryz.underlying57 z z) (vm (.bool false) (oo z z (bp (l:=[ii a1.1,ii a1.2]) oX (H.Gt 1 z) z z z) ?_))))))))))
 obtain⟨x5,E6,E⟩:=ay E
 refine dP z z z (au yO z ((jS.calls E6).mono ?_))
 rintro _ w ⟨rfl,K⟩
 have H:=H.app K
 refine⟨_,z,oo z z (cx z z) (vr (pF (.bool (!decide (x5=0))) z z z) (nl ?_))⟩
 refine aE E z (fun c7 E=>?_) (fun c7 E=>?_)
 ·refine rg (va (ii 0) (nl (aj ?_)))
  cases E
  exact(aL ⟨.inl z,_,tk0 z ⟨aB z (ad ai),_,z,H.bA 0 z⟩⟩)
 ·refine aA (ab (ae (cd (ds:=[]) pL H z z ?_)))
  have H:=H.drew
  refine wm 0 z H (pt b0_) (wg 1 z H (az uZ z) (wz 2 z H (fun w H=>av jO z (ak (H.Gt 1 z) z)) (wg 3 z H (az oY z) (wz 4 z H (fun w H=>av jO z (ak (H.Gt 1 z) z)) (wg 5 z H (bw z) (wg 6 z H (az yQ z) ?_))))))
  obtain⟨⟨g1,g2⟩,E⟩:=ar E
  refine wg 7 z H (dm yJ z z g1 g2) ?_
  obtain⟨⟨g3,g4⟩,E⟩:=ar E
  refine wg 8 z H (dm yI z z g3 g4) (wo 9 z (Rc H 0 z Gc z g1 g2 g3 g4 (fun w H=>⟨fun _=>H.ag [0,1] z z,wg 10 z (H.ag [0,1] z z) (sg (ii (at_ 0 n0_ (cW a1.1 a1.2))) z) (wd (ab (aj ?_)))⟩)))
  cases E
  exact⟨.inl z,_,tk0 z ⟨aB z (ad ai),_,z,H.bA 0 z⟩⟩
end Go.Proofs.YtmhkpafkadijgaaGreatDoor.Gw
