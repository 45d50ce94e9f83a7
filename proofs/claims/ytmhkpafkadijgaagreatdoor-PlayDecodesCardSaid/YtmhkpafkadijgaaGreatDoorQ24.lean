/- A part of the proof of Rows.PlayDecodesCardSaid; the conditions are that card's own. -/
import Derived.Test.YtmhkpafkadijgaaGreatDoorQ21
import Derived.Test.YtmhkpafkadijgaaGreatDoorQ23
set_option linter.all false
set_option maxRecDepth 100000
set_option maxHeartbeats 4000000
namespace Go.Proofs.YtmhkpafkadijgaaGreatDoor.Gw
open Go.IntKind renaming wrap→I,i64→W
open Go Go.RowKit
variable[de]
open Go.IntKind (i8 i16 i32 i64 u8 u16 u32 u64)
open Tryz hiding prog
open Tryz renaming prog → aa
variable{w0:World}{k:Nat}{v0_ v3_ v4_:Value}
theorem lq:Ag aa 24 3:=⟨_,underlying24,z,d_⟩
theorem Gd:En aa 67:=⟨_,_,func67,d_,z⟩
theorem oX:Ag aa 60 2:=⟨_,underlying60,z,d_⟩
theorem yO:En aa 69:=⟨_,_,func69,d_,z⟩
theorem yK:En aa 101:=⟨_,_,func101,d_,z⟩
theorem Gf:Fa aa 24 1 1:=⟨_,_,underlying24,z,z,0,d_⟩
theorem yL:En aa 102:=⟨_,_,func102,d_,z⟩
theorem yS:Sz aa 60 2:=K_
theorem oY:Fa aa 60 1 1:=⟨_,_,underlying60,z,z,0,d_⟩
theorem yP:Fa aa 121 0 0:=⟨_,_,underlying121,z,z,19,d_⟩
theorem yH:Ar aa 114 4 5:=⟨_,underlying114,d_⟩
theorem yM:En aa 104:=⟨_,_,func104,d_,z⟩
theorem F7:En aa 103:=⟨_,_,func103,d_,z⟩
theorem Gh:Zr aa 33 #[sn,sn,sn]:=⟨.agg #[sn,sn,sn],d_,z⟩
theorem sE:Bd aa 33 #[sn,sn,sn] [(0,1),(1,1),(2,1)]:=⟨_,.agg #[sn,sn,sn],underlying33,d_,z,fun w=>d_⟩
theorem qI:Sz aa 33 3:=K_
theorem qH:Ag aa 33 3:=⟨_,underlying33,z,d_⟩
theorem Ge:Fa aa 24 0 0:=⟨_,_,underlying24,z,z,0,d_⟩
theorem F8:En aa 106:=⟨_,_,func106,d_,z⟩
theorem Gg:((#[28]:Array TypeId)[0]?).bind Tryz.prog.underlying=some (.slice 3):=iD underlying28
theorem uZ:Fa aa 60 0 0:=⟨_,_,underlying60,z,z,0,d_⟩
theorem yQ:Fa aa 121 1 20:=⟨_,_,underlying121,z,z,15,d_⟩
theorem yJ:Ar aa 119 4 4:=⟨_,underlying119,d_⟩
theorem yI:Ar aa 118 4 1:=⟨_,underlying118,d_⟩
theorem F9:En aa 107:=⟨_,_,func107,d_,z⟩
theorem Ga:En aa 108:=⟨_,_,func108,d_,z⟩
theorem Gb:En aa 109:=⟨_,_,func109,d_,z⟩
theorem Gc:En aa 125:=⟨_,_,func125,d_,z⟩
def lu.f(a0:Int×Int×Int)(a1:Int×Int):Option (Int):=(dh.f (a0.1,a0.2.1,a0.2.2)).bind fun x3=>bif !decide (x3=0)then(some x3)else((jS.f (a1.1,a1.2)).bind fun x6=>some x6)
theorem lu.calls{a0:Int×Int×Int}{a1:Int×Int}{r:Int}(E:lu.f a0 a1=some r):
 Calls aa 101 #[.agg #[ii a0.1,ii a0.2.1,ii a0.2.2],.agg #[ii a1.1,ii a1.2]] w0 fun e w'=>e= .returned (.int .u16 r)∧St no w0 w' []:=by
 have H:=St.nil no w0
 unfold lu.f at E
 refine Zb func101 ?_
 refine rg (ye (bc (cs:=#[ii a0.1,ii a0.2.1,ii a0.2.2]) H z (fun b1 w H=>ye (bc (cs:=#[ii a1.1,ii a1.2]) H z (fun b2 w H=>A_ ?_)))))
 refine vr (bp (l:=[ii a0.1,ii a0.2.1,ii a0.2.2]) lq (H.Gt 0 z) z z z) ?_
 refine ye (E9 Gd H E (fun _=>dh.calls) (fun x3 E w H=>A_ ?_))
 refine aE E z ?_ ?_<;>intro c5 E
 ·refine A_ ?_
  cases E
  exact(aL ⟨.inl z,_,tk0 z ⟨aB z (ad ai),z,H.bs⟩⟩)
 refine aA (ab (rg (vr (bp (l:=[ii a1.1,ii a1.2]) oX (H.Gt 1 z) z z z) ?_)))
 refine ye (E9 yO H E (fun _=>jS.calls) (fun x6 E w H=>A_ ?_))
 cases E
 exact⟨.inl z,_,tk0 z ⟨aB z (ad ai),z,H.bs⟩⟩
def qO.f(k:Nat)(n0_:List Int)(a1:Int×Int×Int)(a2:Int×Int)(a3:List Int):Option ((List Int×Int)×List Int):=(lu.f (a1.1,a1.2.1,a1.2.2) (a2.1,a2.2)).bind fun x6=>bif !decide (x6=0)then(some ((([]:List Int),x6),n0_))else(bif !decide ((a3.length:Int)=a1.2.1)then(some ((([]:List Int),12),n0_))else((dz.f (a1.1,a1.2.1,a1.2.2) 0 (a2.1,a2.2)).bind fun x1=>an (decide ((0:Int)≤x1.1.2∧x1.1.2<4)) (an (decide (x1.1.2=1∨x1.1.2=2∨x1.1.2=3)) ((kq.f k (a1.1,a1.2.1,a1.2.2) a3).bind fun x2=>some ((x2.1,x2.2),n0_)))))
theorem qO.calls{k b0_:Nat}{d0_:DS}{n0_:List Int}{a1:Int×Int×Int}{a2:Int×Int}{a3:List Int}{r:(List Int×Int)×List Int}(hf:(Rs.gd b0_ d0_ n0_).inv w0)(h3:Rd (.of (.int .u8)) w0 (Ol (Rs.gd b0_ d0_ n0_).fp w0) v3_ a3)(E:qO.f k n0_ a1 a2 a3=some r):
 Calls aa 71 #[pt b0_,.agg #[ii a1.1,ii a1.2.1,ii a1.2.2],.agg #[ii a2.1,ii a2.2],v3_] w0 fun e w'=>∃(m_:DS)(u0:Value),e= .returned (.tuple #[u0,.int .u16 r.1.2])∧St (Rs.gd b0_ d0_ n0_).fp w0 w' [.gd b0_ m_ r.2,.own (.int .u8) 5 u0 r.1.1]:=by
 have H:=St.start hf
 unfold qO.f at E
 refine aP (N:=44) (args:=[pt b0_,.agg #[ii a1.1,ii a1.2.1,ii a1.2.2],.agg #[ii a2.1,ii a2.2],v3_]) Tryz.func71 z z j_ ?_
 refine rg (ye (bc (cs:=#[ii a1.1,ii a1.2.1,ii a1.2.2]) H z (fun b1 w H=>ye (bc (cs:=#[ii a2.1,ii a2.2]) H z (fun b2 w H=>va sn (va (.int .u16 0) (nl (ae (rg (vm (pt b0_) (vr (cV Tryz.underlying57 z z) (nl (bS z (aA (ab (ae (rg (vr (bp (l:=[ii a1.1,ii a1.2.1,ii a1.2.2]) lq (H.Gt 1 z) z z z) (vr (bp (l:=[ii a2.1,ii a2.2]) oX (H.Gt 2 z) z z z) ?_)))))))))))))))))))
 refine ye (E9 yK H E (fun _ h=>lu.calls h) (fun x6 E w H=>va (.int .u16 x6) (nl (rg (vm (.int .u16 x6) (vr (cx z z) (nl ?_)))))))
 refine aE E z (fun c8 E=>?_) (fun c8 E=>?_)
 ·refine rg (vm (.int .u16 x6) (va sn (va (.int .u16 x6) (nl (aj ?_)))))
  have H:=H.bB (.int .u8) 5
  cases E
  exact(aL ⟨.inl z,_,tk0 z ⟨aB z (ad (ad ai)),_,_,z,H.bN 0 3 z z z⟩⟩)
 refine aA (ab (ae (rg (vm v3_ (vr (aY tp (H.rd h3) z) (vr (az Gf z) (vr (av jO z (ak (H.Gt 1 z) z)) (vr (cx z z) (nl ?_)))))))))
 refine aE E z (fun c1 E=>?_) (fun c1 E=>?_)
 ·refine rg (va sn (va (.int .u16 12) (nl (aj ?_))))
  have H:=H.bB (.int .u8) 5
  cases E
  exact(aL ⟨.inl z,_,tk0 z ⟨aB z (ad (ad ai)),_,_,z,H.bN 0 3 z z z⟩⟩)
 refine aA (ab (rg (vr (bp (l:=[ii a1.1,ii a1.2.1,ii a1.2.2]) lq (H.Gt 1 z) z z z) (vr (bp (l:=[ii a2.1,ii a2.2]) oX (H.Gt 2 z) z z z) ?_))))
 refine ye (E9 yL H E (fun _ h=>dz.calls h) (fun x1 E w H=>vr cz (vr (aX z z) (vr (aX z z) (s_ (cy yS H 2 z z z z z z (fun w H=>nl (ae (eZ (ds:=[]) (fun w=>∃(d':DS)(n':List Int),St (Rs.gd b0_ d0_ n0_).fp w0 w [.gd b0_ d' n',.blk b1 #[ii a1.1,ii a1.2.1,ii a1.2.2] 24,.blk b2 #[ii x1.1.1,ii x1.1.2] 60]) pL H z z ?_)))))))))
 have H:=H.drew
 have H:St _ _ _ [_,_,_]:=H
 refine wm 0 z ⟨_,_,H⟩ (pt b0_) (wg 1 z ⟨_,_,H⟩ (az oY z) (wz 2 z ⟨_,_,H⟩ (fun w ⟨d',n',H⟩=>av jO z (ak (H.Gt 2 z) z)) (wg 3 z ⟨_,_,H⟩ (bw z) (wg 4 z ⟨_,_,H⟩ (az yP z) ?_))))
 obtain⟨⟨g1,g2⟩,E⟩:=ar E
 refine wg 5 z ⟨_,_,H⟩ (dm yH z z g1 g2) (wg 6 z ⟨_,_,H⟩ (az oY z) (wz 7 z ⟨_,_,H⟩ (fun w ⟨d',n',H⟩=>av jO z (ak (H.Gt 2 z) z)) (wz 9 z ⟨_,_,H⟩ (fun w ⟨d',n',H⟩=>bp (l:=[ii a1.1,ii a1.2.1,ii a1.2.2]) lq (H.Gt 1 z) z z z) (wm 10 z ⟨_,_,H⟩ v3_ ?_))))
 obtain⟨g3,E⟩:=ar E
 refine wo 8 z (Eb H 0 z yM z z g3 (fun f1 d1 w hf1 H=>⟨fun _=>⟨_,_,H.ag [0,1,2] z z⟩,?_⟩))
 obtain⟨x2,E2,E⟩:=ay E
 refine wo 11 z (au F7 z ((kq.calls (Am (H.Gt 0 z) hf1) (wU hf1 (H.cj 0 z (H.rd h3))) E2).mono ?_))
 rintro _ w ⟨v1,rfl,K⟩
 have H:=H.yu 0 z hf1 K
 refine⟨_,z,⟨fun _=>⟨_,_,H.ag [0,1,2] z z⟩,wg 12 z ⟨_,_,H.ag [0,1,2] z z⟩ (aX z z) (wg 13 z ⟨_,_,H.ag [0,1,2] z z⟩ (aX z z) (wy 14 z (⟨_,_,H.ag [0,1,2] z z⟩) (sg v1 z) (wg 15 z ⟨_,_,H.ag [0,1,2] z z⟩ (sg (.int .u16 x2.2) z) (wd (ab (aj ?_))))))⟩⟩
 cases E
 exact⟨.inl z,_,tk0 z ⟨aB z (ad (ad ai)),_,_,z,H.bN 0 3 z z z⟩⟩
def mi.f(k:Nat)(n0_:List Int)(a1:Int×Int×Int)(a2:Int×Int)(a3 a4:List Int):Option (((List Int×List Int×List Int)×Int)×List Int):=(lu.f (a1.1,a1.2.1,a1.2.2) (a2.1,a2.2)).bind fun x7=>bif !decide (x7=0)then(some (((([]:List Int),([]:List Int),([]:List Int)),x7),n0_))else(bif !decide ((a3.length:Int)=a1.1)then(some (((([]:List Int),([]:List Int),([]:List Int)),12),n0_))else((dA.f k (a1.1,a1.2.1,a1.2.2) a4).bind fun x1=>bif !decide (x1=0)then(some (((([]:List Int),([]:List Int),([]:List Int)),x1),n0_))else((dz.f (a1.1,a1.2.1,a1.2.2) (a4.length:Int) (a2.1,a2.2)).bind fun x2=>an (decide ((0:Int)≤x2.1.1∧x2.1.1<4)) (an (decide ((0:Int)≤x2.1.2∧x2.1.2<4)) (an (decide ((0:Int)≤x2.1.2∧x2.1.2<4)) (an (decide (x2.1.2=1∨x2.1.2=2∨x2.1.2=3)) ((jY.f k x2.1.1 (a1.1,a1.2.1,a1.2.2) a3 a4).bind fun x3=>bif !x3.2 then(some (((([]:List Int),([]:List Int),([]:List Int)),14),n0_.set (cW x2.1.1 x2.1.2).toNat (I W (at_ 0 n0_ (cW x2.1.1 x2.1.2)+1))))else((iG.f k (a1.1,a1.2.1,a1.2.2) a3 x3.1).bind fun x4=>some (((x4.1.1,x4.1.2.1,x4.1.2.2),x4.2),n0_.set (cW x2.1.1 x2.1.2).toNat (I W (at_ 0 n0_ (cW x2.1.1 x2.1.2)+1)))))))))))
theorem mi.calls{k b0_:Nat}{d0_:DS}{n0_:List Int}{a1:Int×Int×Int}{a2:Int×Int}{a3 a4:List Int}{r:((List Int×List Int×List Int)×Int)×List Int}(hf:(Rs.gd b0_ d0_ n0_).inv w0)(h3:Rd (.of (.int .u8)) w0 (Ol (Rs.gd b0_ d0_ n0_).fp w0) v3_ a3)(h4:Rd (.of (.int .i64)) w0 (Ol (Rs.gd b0_ d0_ n0_).fp w0) v4_ a4)(E:mi.f k n0_ a1 a2 a3 a4=some r):
 Calls aa 73 #[pt b0_,.agg #[ii a1.1,ii a1.2.1,ii a1.2.2],.agg #[ii a2.1,ii a2.2],v3_,v4_] w0 fun e w'=>∃(m_:DS)(u0_0 u0_1 u0_2:Value),e= .returned (.tuple #[.agg #[u0_0,u0_1,u0_2],.int .u16 r.1.2])∧St (Rs.gd b0_ d0_ n0_).fp w0 w' [.gd b0_ m_ r.2,.own (.int .u8) 5 u0_0 r.1.1.1,.own (.int .u8) 5 u0_1 r.1.1.2.1,.own (.int .i64) 3 u0_2 r.1.1.2.2]:=by
 have H:=St.start hf
 unfold mi.f at E
 refine aP (N:=84) (args:=[pt b0_,.agg #[ii a1.1,ii a1.2.1,ii a1.2.2],.agg #[ii a2.1,ii a2.2],v3_,v4_]) Tryz.func73 z z j_ ?_
 refine rg (ye (bc (cs:=#[ii a1.1,ii a1.2.1,ii a1.2.2]) H z (fun b1 w H=>ye (bc (cs:=#[ii a2.1,ii a2.2]) H z (fun b2 w H=>ye (cr Gh H (fun b3 w H=>va (.int .u16 0) (nl (ae (rg (vm (pt b0_) (vr (cV Tryz.underlying57 z z) (nl (bS z (aA (ab (ae (rg (vr (bp (l:=[ii a1.1,ii a1.2.1,ii a1.2.2]) lq (H.Gt 1 z) z z z) (vr (bp (l:=[ii a2.1,ii a2.2]) oX (H.Gt 2 z) z z z) ?_))))))))))))))))))))
 refine ye (E9 yK H E (fun _ h=>lu.calls h) (fun x7 E w H=>va (.int .u16 x7) (nl (rg (vm (.int .u16 x7) (vr (cx z z) (nl ?_)))))))
 refine aE E z (fun c9 E=>?_) (fun c9 E=>?_)
 ·refine rg (vr (cf (cs:=[sn,sn,sn]) sE z) (vm (.int .u16 x7) (s_ (cy qI H 3 z z z z z z (fun w H=>?_)))))
  have H:St _ _ _ [_,_,_,_]:=H
  refine va (.int .u16 x7) (nl (aj ?_))
  have H:=H.bB (.int .u8) 5
  have H:=H.bB (.int .u8) 5
  have H:=H.bB (.int .i64) 3
  cases E
  exact(aL ⟨.inl z,_,tk0 z ⟨aB z (dL z qH (eG (n:=3) (H.Gt 3 z) z) z (ad ai)),_,_,_,_,z,H.ag [0,4,5,6] z z⟩⟩)
 refine aA (ab (ae (rg (vm v3_ (vr (aY tp (H.rd h3) z) (vr (az Ge z) (vr (av jO z (ak (H.Gt 1 z) z)) (vr (cx z z) (nl ?_)))))))))
 refine aE E z (fun c1 E=>?_) (fun c1 E=>?_)
 ·refine rg (vr (cf (cs:=[sn,sn,sn]) sE z) (s_ (cy qI H 3 z z z z z z (fun w H=>?_))))
  have H:St _ _ _ [_,_,_,_]:=H
  refine va (.int .u16 12) (nl (aj ?_))
  have H:=H.bB (.int .u8) 5
  have H:=H.bB (.int .u8) 5
  have H:=H.bB (.int .i64) 3
  cases E
  exact(aL ⟨.inl z,_,tk0 z ⟨aB z (dL z qH (eG (n:=3) (H.Gt 3 z) z) z (ad ai)),_,_,_,_,z,H.ag [0,4,5,6] z z⟩⟩)
 refine aA (ab (ae (rg (vr (bp (l:=[ii a1.1,ii a1.2.1,ii a1.2.2]) lq (H.Gt 1 z) z z z) (vm v4_ ?_)))))
 refine ye (E9 F8 H E (fun _ h=>dA.calls (H.arg (H.rd h4)) h) (fun x1 E w H=>?_))
 have H:St _ _ _ [_,_,_,_]:=H
 refine va (.int .u16 x1) (nl (rg (vm (.int .u16 x1) (vr (cx z z) (nl ?_)))))
 refine aE E z (fun c2 E=>?_) (fun c2 E=>?_)
 ·refine rg (vr (cf (cs:=[sn,sn,sn]) sE z) (vm (.int .u16 x1) (s_ (cy qI H 3 z z z z z z (fun w H=>va (.int .u16 x1) (nl (aj ?_)))))))
  have H:=H.bB (.int .u8) 5
  have H:=H.bB (.int .u8) 5
  have H:=H.bB (.int .i64) 3
  cases E
  exact(aL ⟨.inl z,_,tk0 z ⟨aB z (dL z qH (eG (n:=3) (H.Gt 3 z) z) z (ad ai)),_,_,_,_,z,H.ag [0,4,5,6] z z⟩⟩)
 refine aA (ab (rg (vr (bp (l:=[ii a1.1,ii a1.2.1,ii a1.2.2]) lq (H.Gt 1 z) z z z) (vm v4_ (vr (aY Gg (H.rd h4) z) (vr (bp (l:=[ii a2.1,ii a2.2]) oX (H.Gt 2 z) z z z) ?_))))))
 refine ye (E9 yL H E (fun _ h=>dz.calls h) (fun x2 E w H=>vr cz (vr (aX z z) (vr (aX z z) (s_ (cy yS H 2 z z z z z z (fun w H=>nl (ae (eZ (ds:=[]) (fun w=>∃(d':DS)(n':List Int),St (Rs.gd b0_ d0_ n0_).fp w0 w [.gd b0_ d' n',.blk b1 #[ii a1.1,ii a1.2.1,ii a1.2.2] 24,.blk b2 #[ii x2.1.1,ii x2.1.2] 60,.blk b3 #[sn,sn,sn] 33]) pL H z z ?_)))))))))
 have H:=H.drew
 refine wm 0 z ⟨_,_,H⟩ (pt b0_) (wg 1 z ⟨_,_,H⟩ (az uZ z) (wz 2 z ⟨_,_,H⟩ (fun w ⟨d',n',H⟩=>av jO z (ak (H.Gt 2 z) z)) (wg 3 z ⟨_,_,H⟩ (az oY z) (wz 4 z ⟨_,_,H⟩ (fun w ⟨d',n',H⟩=>av jO z (ak (H.Gt 2 z) z)) (wg 5 z ⟨_,_,H⟩ (bw z) (wg 6 z ⟨_,_,H⟩ (az yQ z) ?_))))))
 obtain⟨⟨g1,g2⟩,E⟩:=ar E
 refine wg 7 z ⟨_,_,H⟩ (dm yJ z z g1 g2) ?_
 obtain⟨⟨g3,g4⟩,E⟩:=ar E
 refine wg 8 z ⟨_,_,H⟩ (dm yI z z g3 g4) (wo 9 z (QS H 0 z F9 z z g1 g2 g3 g4 (fun w H=>⟨fun _=>⟨_,_,H.ag [0,1,2,3] z z⟩,wd (ab (ae (eZ (ds:=[]) (fun w=>∃(d':DS)(n':List Int),St (Rs.gd b0_ d0_ n0_).fp w0 w [.gd b0_ d' n',.blk b1 #[ii a1.1,ii a1.2.1,ii a1.2.2] 24,.blk b2 #[ii x2.1.1,ii x2.1.2] 60,.blk b3 #[sn,sn,sn] 33]) pL H z z ?_)))⟩)))
 have H:=H.drew
 refine wg 0 z ⟨_,_,H⟩ (az uZ z) (wz 1 z ⟨_,_,H⟩ (fun w ⟨d',n',H⟩=>av jO z (ak (H.Gt 2 z) z)) (wm 2 z ⟨_,_,H⟩ (pt b0_) (wg 3 z ⟨_,_,H⟩ (az oY z) (wz 4 z ⟨_,_,H⟩ (fun w ⟨d',n',H⟩=>av jO z (ak (H.Gt 2 z) z)) (wg 5 z ⟨_,_,H⟩ (bw z) (wg 6 z ⟨_,_,H⟩ (az yP z) ?_))))))
 obtain⟨⟨g5,g6⟩,E⟩:=ar E
 refine wg 7 z ⟨_,_,H⟩ (dm yH z z g5 g6) (wg 8 z ⟨_,_,H⟩ (az oY z) (wz 9 z ⟨_,_,H⟩ (fun w ⟨d',n',H⟩=>av jO z (ak (H.Gt 2 z) z)) (wz 11 z ⟨_,_,H⟩ (fun w ⟨d',n',H⟩=>bp (l:=[ii a1.1,ii a1.2.1,ii a1.2.2]) lq (H.Gt 1 z) z z z) (wm 12 z ⟨_,_,H⟩ v3_ (wm 13 z ⟨_,_,H⟩ v4_ ?_)))))
 obtain⟨g7,E⟩:=ar E
 refine wo 10 z (Eb H 0 z yM z z g7 (fun f1 d1 w hf1 H=>⟨fun _=>⟨_,_,H.ag [0,1,2,3] z z⟩,?_⟩))
 obtain⟨x3,E3,E⟩:=ay E
 refine wo 14 z (au Ga z ((jY.calls (Am (H.Gt 0 z) hf1) (wU hf1 (H.cj 0 z (H.rd h3))) (wU hf1 (H.cj 0 z (H.rd h4))) E3).mono ?_))
 rintro _ w ⟨v1,rfl,K⟩
 have H:=H.yu 0 z hf1 K
 refine⟨_,z,⟨fun _=>⟨_,_,H.ag [0,1,2,3] z z⟩,?_⟩⟩
 have H:St _ _ _ [_,_,_,_,_]:=H
 refine wg 15 z ⟨_,_,H.ag [0,1,2,3] z z⟩ cz (wg 16 z ⟨_,_,H.ag [0,1,2,3] z z⟩ (aX z z) (wg 17 z ⟨_,_,H.ag [0,1,2,3] z z⟩ (aX z z) (wy 18 z (⟨_,_,H.ag [0,1,2,3] z z⟩) (sg v1 z) (wg 19 z ⟨_,_,H.ag [0,1,2,3] z z⟩ (sg (.bool x3.2) z) (wd (ab (ae (rg (vm (.bool x3.2) (vr (cp z) (nl ?_)))))))))))
 refine aE E z (fun c3 E=>?_) (fun c3 E=>?_)
 ·refine rg (vr (cf (cs:=[sn,sn,sn]) sE z) (s_ (cy qI H 3 z z z z z z (fun w H=>va (.int .u16 14) (nl (aj ?_))))))
  have H:=H.bB (.int .u8) 5
  have H:=H.bB (.int .u8) 5
  have H:=H.bB (.int .i64) 3
  cases E
  exact(aL ⟨.inl z,_,tk0 z ⟨aB z (dL z qH (eG (n:=3) (H.Gt 3 z) z) z (ad ai)),_,_,_,_,z,H.ag [0,5,6,7] z z⟩⟩)
 refine aA (ab (rg (vr (bp (l:=[ii a1.1,ii a1.2.1,ii a1.2.2]) lq (H.Gt 1 z) z z z) (vm v3_ (vm v1 ?_)))))
 obtain⟨x4,E4,E⟩:=ay E
 refine ye (au Gb z ((iG.calls (H.arg (H.rd h3)) (H.own 4 z (ao (H.Gt 4 z))) E4).mono ?_))
 rintro _ w ⟨v2,v3,v4,rfl,K⟩
 have H:=H.app K
 refine⟨_,z,vr (aX z z) (vr (aX z z) ?_)⟩
 obtain⟨p1,n1,c4,rfl⟩:=bX (H.Gt 5 z)
 obtain⟨p2,n2,c5,rfl⟩:=bX (H.Gt 6 z)
 obtain⟨p3,n3,c6,rfl⟩:=bX (H.Gt 7 z)
 refine s_ (cy qI H 3 z z z z z z (fun w H=>va (.int .u16 x4.2) (nl (aj ?_))))
 cases E
 exact⟨.inl z,_,tk0 z ⟨aB z (dL z qH (eG (n:=3) (H.Gt 3 z) z) z (ad ai)),_,_,_,_,z,H.ag [0,5,6,7] z z⟩⟩
def qN.f(n0_:List Int)(a1:Int×Int):Option ((Int)×List Int):=(jS.f (a1.1,a1.2)).bind fun x5=>bif !decide (x5=0)then(some (0,n0_))else(an (decide ((0:Int)≤a1.1∧a1.1<4)) (an (decide ((0:Int)≤a1.2∧a1.2<4)) (some (at_ 0 n0_ (cW a1.1 a1.2),n0_))))
theorem qN.calls{b0_:Nat}{d0_:DS}{n0_:List Int}{a1:Int×Int}{r:(Int)×List Int}(hf:(Rs.gd b0_ d0_ n0_).inv w0)(E:qN.f n0_ a1=some r):
 Calls aa 84 #[pt b0_,.agg #[ii a1.1,ii a1.2]] w0 fun e w'=>∃(m_:DS),e= .returned (ii r.1)∧St (Rs.gd b0_ d0_ n0_).fp w0 w' [.gd b0_ m_ r.2]:=by
 have H:=St.start hf
 unfold qN.f at E
 refine aP (N:=22) (args:=[pt b0_,.agg #[ii a1.1,ii a1.2]]) Tryz.func84 z z j_ ?_
 refine rg (ye (bc (cs:=#[ii a1.1,ii a1.2]) H z (fun b1 w H=>va (ii 0) (nl (ae (rg (vm (pt b0_) (vr (cV Tryz.underlying57 z z) (vm (.bool false) (oo z z (bp (l:=[ii a1.1,ii a1.2]) oX (H.Gt 1 z) z z z) ?_))))))))))
 refine dP z z z (E9 yO H E (fun _ h=>jS.calls h) (fun x5 E w H=>oo z z (cx z z) (vr (pF (.bool (!decide (x5=0))) z z z) (nl ?_))))
 refine aE E z (fun c7 E=>?_) (fun c7 E=>?_)
 ·refine rg (va (ii 0) (nl (aj ?_)))
  cases E
  exact(aL ⟨.inl z,_,tk0 z ⟨aB z (ad ai),_,z,H.bA 0 z⟩⟩)
 refine aA (ab (ae (cd (ds:=[]) pL H z z ?_)))
 have H:=H.drew
 refine wm 0 z H (pt b0_) (wg 1 z H (az uZ z) (wz 2 z H (fun w H=>av jO z (ak (H.Gt 1 z) z)) (wg 3 z H (az oY z) (wz 4 z H (fun w H=>av jO z (ak (H.Gt 1 z) z)) (wg 5 z H (bw z) (wg 6 z H (az yQ z) ?_))))))
 obtain⟨⟨g1,g2⟩,E⟩:=ar E
 refine wg 7 z H (dm yJ z z g1 g2) ?_
 obtain⟨⟨g3,g4⟩,E⟩:=ar E
 refine wg 8 z H (dm yI z z g3 g4) (wo 9 z (Rc H 0 z Gc z g1 g2 g3 g4 (fun w H=>⟨fun _=>H.ag [0,1] z z,wg 10 z (H.ag [0,1] z z) (sg (ii (at_ 0 n0_ (cW a1.1 a1.2))) z) (wd (ab (aj ?_)))⟩)))
 cases E
 exact⟨.inl z,_,tk0 z ⟨aB z (ad ai),_,z,H.bA 0 z⟩⟩
theorem mb:Sl aa 22 5 1 1 (iu 0):=ja underlying22 d_ z f_
def dp:ByteArray:=⟨#[]⟩
def j7:ByteArray:=⟨#[48,49,50,51,52,53,54,55,56,57,97,98,99,100,101,102,103,104,105,106,107,108,109,110,111,112,113,114,115,116,117,118,119,120,121,122]⟩
def uT:ByteArray:=⟨#[48,48,48,49,48,50,48,51,48,52,48,53,48,54,48,55,48,56,48,57,49,48,49,49,49,50,49,51,49,52,49,53,49,54,49,55,49,56,49,57,50,48,50,49,50,50,50,51,50,52,50,53,50,54,50,55,50,56,50,57,51,48,51,49,51,50,51,51,51,52,51,53,51,54,51,55,51,56,51,57,52,48,52,49,52,50,52,51,52,52,52,53,52,54,52,55,52,56,52,57,53,48,53,49,53,50,53,51,53,52,53,53,53,54,53,55,53,56,53,57,54,48,54,49,54,50,54,51,54,52,54,53,54,54,54,55,54,56,54,57,55,48,55,49,55,50,55,51,55,52,55,53,55,54,55,55,55,56,55,57,56,48,56,49,56,50,56,51,56,52,56,53,56,54,56,55,56,56,56,57,57,48,57,49,57,50,57,51,57,52,57,53,57,54,57,55,57,56,57,57]⟩
theorem su:((#[22]:Array TypeId)[0]?).bind Tryz.prog.underlying=some (.slice 5):=iD underlying22
theorem EC:sx aa 229 65:=K_
theorem Ej:En aa 138:=⟨_,_,func138,d_,z⟩
theorem Ek:En aa 139:=⟨_,_,func139,d_,z⟩
theorem oQ:Ar aa 229 65 1:=⟨_,underlying229,d_⟩
theorem oT:Sz aa 5 1:=K_
theorem Ep:En aa 94:=⟨_,_,func94,d_,z⟩
theorem Es:En aa 97:=⟨_,_,func97,d_,z⟩
theorem Em:En aa 65:=⟨_,_,func65,d_,z⟩
def mc:ByteArray:=⟨#[45]⟩
theorem EB:Zr aa 70 #[.pointer none,sn]:=⟨.agg #[.pointer none,sn],d_,z⟩
theorem oS:Sc aa 5:=⟨_,underlying5,z⟩
theorem yf:En aa 105:=⟨_,_,func105,d_,z⟩
theorem yh:En aa 44:=⟨_,_,func44,d_,z⟩
theorem El:En aa 45:=⟨_,_,func45,d_,z⟩
theorem yk:((#[28]:Array TypeId)[0]?).bind Tryz.prog.underlying=some (.slice 3):=iD underlying28
theorem uS:Sl aa 28 3 1 8 (ii 0):=ja underlying28 d_ z f_
theorem sj:Sc aa 3:=⟨_,underlying3,z⟩
theorem qx:En aa 10:=⟨_,_,func10,d_,z⟩
theorem sk:Sl aa 65 9 1 16 (.string ByteArray.empty):=ja underlying65 d_ z f_
theorem yg:En aa 110:=⟨_,_,func110,d_,z⟩
def gX:ByteArray:=⟨#[32]⟩
def yj:ByteArray:=⟨#[101,114,114,111,114]⟩
theorem Eo:En aa 74:=⟨_,_,func74,d_,z⟩
theorem EA:((#[65]:Array TypeId)[0]?).bind Tryz.prog.underlying=some (.slice 9):=iD underlying65
theorem Ez:Sc aa 9:=⟨_,underlying9,z⟩
theorem uR:((#[9]:Array TypeId)[0]?).bind Tryz.prog.underlying=some .string:=by show Option.bind (some 9) _=_;rw[aJ];exact underlying9
def so:ByteArray:=⟨#[48,49,50,51,52,53,54,55,56,57]⟩
theorem Et:En aa 98:=⟨_,_,func98,d_,z⟩
theorem Eu:En aa 99:=⟨_,_,func99,d_,z⟩
theorem Ei:En aa 100:=⟨_,_,func100,d_,z⟩
theorem yi:Tryz.prog.follows .mixedOrders=true:=d_
theorem Ew:Fa aa 24 0 0:=⟨_,_,underlying24,z,z,0,d_⟩
theorem Ex:Fa aa 24 1 1:=⟨_,_,underlying24,z,z,0,d_⟩
theorem Ey:Fa aa 24 2 2:=⟨_,_,underlying24,z,z,0,d_⟩
def lf:ByteArray:=⟨#[99,111,100,101,32]⟩
def sr:ByteArray:=⟨#[10]⟩
def jA:ByteArray:=⟨#[48,49,50,51,52,53,54,55,56,57,97,98,99,100,101,102]⟩
def internal_strconv_small.f(a0:Int):Option (ByteArray):=bif decide (a0<10)then(an (decide ((0:Int)≤a0∧a0≤I W (a0+1)∧I W (a0+1)≤(j7.size:Int))) (some (ext j7 a0 (I W (a0+1)))))else(an (decide ((0:Int)≤I W (a0*2)∧I W (a0*2)≤I W (I W (a0*2)+2)∧I W (I W (a0*2)+2)≤(uT.size:Int))) (some (ext uT (I W (a0*2)) (I W (I W (a0*2)+2)))))
theorem internal_strconv_small.calls{a0:Int}{r:ByteArray}(E:internal_strconv_small.f a0=some r):
 Calls aa 94 #[ii a0] w0 fun e w'=>e= .returned (.string r)∧St no w0 w' []:=by
 have H:=St.nil no w0
 unfold internal_strconv_small.f at E
 refine Zb func94 ?_
 refine A_ ?_
 refine aE E z ?_ ?_<;>intro c1 E<;>refine A_ ?_
 ·obtain⟨⟨g2,g3,g4⟩,E⟩:=ar E
  refine vr (uo underlying9 z z z g2 g3 g4) (A_ ?_)
  cases E
  exact(aL ⟨.inl z,_,tk0 z ⟨aB z (ad ai),z,H.bs⟩⟩)
 obtain⟨⟨g5,g6,g7⟩,E⟩:=ar E
 refine vr (uo underlying9 z z z g5 g6 g7) (A_ ?_)
 cases E
 exact⟨.inl z,_,tk0 z ⟨aB z (ad ai),z,H.bs⟩⟩
def rz.f(a0:Int):Option (Bool):=some (decide (bits .and .i64 a0 (I W (a0-1))=0))
theorem rz.calls{a0:Int}{r:Bool}(E:rz.f a0=some r):
 Calls aa 138 #[ii a0] w0 fun e w'=>e= .returned (.bool r)∧St no w0 w' []:=by
 have H:=St.nil no w0
 unfold rz.f at E
 refine Zb func138 ?_
 refine A_ ?_
 cases E
 exact⟨.inl z,_,tk0 z ⟨aB z (ad ai),z,H.bs⟩⟩
def cT.j0(k:Nat)(a0:Int)(x1:Bool):Option (ByteArray):=bif x1 then((internal_strconv_small.f a0).bind fun x2=>some x2)else(none)
def cT.j1(l0r:Int→Int→Int→List Int→Int→Int→Option ByteArray)(l1r:Int→Int→List Int→Int→Int→Option ByteArray)(k:Nat)(a0 a1 x1:Int):Option (ByteArray):=(rz.f a1).bind fun x2=>bif x2 then((kv.f (u64.wrap a1)).bind fun x3=>l0r a0 a1 x3 (List.replicate 65 (0:Int)) x1 65)else(l1r a0 a1 (List.replicate 65 (0:Int)) x1 65)
def cT.j3(k:Nat)(l1:List Int)(x1:Int):Option (ByteArray):=an (decide ((0:Int)≤x1∧x1<65)) (some (strOfNums (l1.drop x1.toNat)))
def cT.j2(k:Nat)(a0:Int)(l1:List Int)(x1:Int):Option (ByteArray):=bif decide (a0<0)then(an (decide ((0:Int)≤I W (x1-1)∧I W (x1-1)<65)) (cT.j3 k (l1.set (0+(I W (x1-1)).toNat) 45) (I W (x1-1))))else(cT.j3 k l1 x1)
mutual
def cT.l0:Nat→Int→Int→Int→List Int→Int→Int→Option (ByteArray)
 |0,_,_,_,_,_,_=>none
 |k+1,a0,a1,x1,l1,x2,x3=>bif decide (u64.wrap a1≤x2)then(an (decide ((0:Int)≤bits .and .u64 x2 (u64.wrap ((u64.wrap a1)-1))∧bits .and .u64 x2 (u64.wrap ((u64.wrap a1)-1))<(j7.size:Int))) (an (decide ((0:Int)≤I W (x3-1)∧I W (x3-1)<65)) (an (decide (0≤u64.wrap x1)) (cT.l0 k a0 a1 x1 (l1.set (0+(I W (x3-1)).toNat) (sat j7 (bits .and .u64 x2 (u64.wrap ((u64.wrap a1)-1))))) (Int.fdiv x2 (2^min (u64.wrap x1).toNat 64)) (I W (x3-1))))))else(an (decide ((0:Int)≤x2∧x2<(j7.size:Int))) (an (decide ((0:Int)≤I W (x3-1)∧I W (x3-1)<65)) (cT.j2 k a0 (l1.set (0+(I W (x3-1)).toNat) (sat j7 x2)) (I W (x3-1)))))
def cT.l1:Nat→Int→Int→List Int→Int→Int→Option (ByteArray)
 |0,_,_,_,_,_=>none
 |k+1,a0,a1,l2,x4,x5=>bif decide (u64.wrap a1≤x4)then(an (decide (u64.wrap a1≠0)) (an (decide ((0:Int)≤u64.wrap (x4-(u64.wrap (u64.wrap (Int.tdiv x4 (u64.wrap a1))*u64.wrap a1)))∧u64.wrap (x4-(u64.wrap (u64.wrap (Int.tdiv x4 (u64.wrap a1))*u64.wrap a1)))<(j7.size:Int))) (an (decide ((0:Int)≤I W (x5-1)∧I W (x5-1)<65)) (cT.l1 k a0 a1 (l2.set (0+(I W (x5-1)).toNat) (sat j7 (u64.wrap (x4-(u64.wrap (u64.wrap (Int.tdiv x4 (u64.wrap a1))*u64.wrap a1)))))) (u64.wrap (Int.tdiv x4 (u64.wrap a1))) (I W (x5-1))))))else(an (decide ((0:Int)≤x4∧x4<(j7.size:Int))) (an (decide ((0:Int)≤I W (x5-1)∧I W (x5-1)<65)) (cT.j2 k a0 (l2.set (0+(I W (x5-1)).toNat) (sat j7 x4)) (I W (x5-1)))))
end
def cT.f(k:Nat)(a0 a1:Int):Option (ByteArray):=bif decide (a1=10)then(bif decide (0≤a0)then(cT.j0 k a0 (decide (a0<100)))else(cT.j0 k a0 false))else(bif decide (a1<2)then(none)else(bif decide (36<a1)then(none)else(bif decide (a0<0)then(cT.j1 (cT.l0 k) (cT.l1 k) k a0 a1 (u64.wrap (-(u64.wrap a0))))else(cT.j1 (cT.l0 k) (cT.l1 k) k a0 a1 (u64.wrap a0)))))
theorem cT.calls{a0 a1:Int}{r:ByteArray}(hf:(Rs.gt).inv w0)(E:cT.f k a0 a1=some r):
 Calls aa 65 #[ii a0,ii a1] w0 fun e w'=>e= .returned (.string r)∧St (Rs.gt).fp w0 w' [.gt]:=by
 have H:=St.start hf
 unfold cT.f at E
 refine Zb func65 ?_
 refine A_ ?_
 refine aE E z ?_ ?_<;>intro c1 E
 ·refine ae ?_
  refine cA (fun t w=>∃(k1:Nat)(x1:Bool)(t1:Fr),k1≤k∧cT.j0 k1 a0 x1=some r∧t=aU t1 [(0,ii a0),(1,ii a1),(4,.string dp),(17,.bool x1),Zc]∧St (Rs.gt).fp w0 w [.gt]) ?_ ?_
  ·refine A_ ?_
   rcases bR (decide (0≤a0))with c2|c2
   ·have E:=iT c2 E
    refine A_ ?_
    exact⟨k,_,_,aI _,E,Za,H⟩
   have E:=iF c2 E
   refine A_ ?_
   exact⟨k,_,_,aI _,E,Za,H⟩
  rintro t w ⟨k1,x1,t1,hk1,E,rfl,H⟩
  unfold cT.j0 at E
  refine aE E z ?_ ?_<;>intro c3 E
  ·refine A_ ?_
   refine ye (E9 Ep H E (fun _=>internal_strconv_small.calls) (fun x2 E w H=>A_ ?_))
   cases E
   exact(aL (aL ⟨.inl z,_,tk0 z ⟨aB z (ad ai),z,H.bA 0 z⟩⟩))
  cases E
 refine A_ ?_
 refine ye (cm 102 [sn,.int .u64 (u64.wrap a0),ii a1,.bool (decide (a0<0)),.bool false] Es func97 z z z z (A_ ?_))
 rcases bR (decide (a1<2))with c4|c4
 ·have E:=iT c4 E
  refine A_ ?_
  cases E
 have E:=iF c4 E
 refine A_ ?_
 refine aE E z ?_ ?_<;>intro c5 E
 ·refine aH ?_
  cases E
 refine aA (ab (rg (ye (D6 (n:=65) EC H (fun b1 w H=>J_ ?_)))))
 refine cA (fun t w=>∃(k2:Nat)(x3:Int)(t2:Fr),k2≤k∧cT.j1 (cT.l0 k2) (cT.l1 k2) k2 a0 a1 x3=some r∧t=aU t2 [(0,sn),(1,.int .u64 x3),(2,ii a1),(3,.bool (decide (a0<0))),(4,.bool false),(10,sn),(11,.string dp),(12,pt b1),(13,ii 65),Zc]∧St (Rs.gt).fp w0 w [.gt,.own (.int .u8) 229 (.slice (some ⟨b1,0,none⟩) 65 65) (List.replicate 65 (0:Int))]) ?_ ?_
 ·refine A_ ?_
  refine aE E z ?_ ?_<;>intro c6 E
  ·refine A_ ?_
   exact⟨k,_,_,aI _,E,Za,H⟩
  refine aA ?_
  exact⟨k,_,_,aI _,E,Za,H⟩
 rintro t w ⟨k2,x3,t2,hk2,E,rfl,H⟩
 unfold cT.j1 at E
 refine cA (fun t w=>∃(k3:Nat)(l1:List Int)(x4:Int)(t3:Fr),k3≤k2∧cT.j2 k3 a0 l1 x4=some r∧t=aU t3 [(0,sn),(3,.bool (decide (a0<0))),(4,.bool false),(10,sn),(11,.string dp),(12,pt b1),(13,ii x4),Zc]∧St (Rs.gt).fp w0 w [.gt,.own (.int .u8) 229 (.slice (some ⟨b1,0,none⟩) 65 65) l1]) ?_ ?_
 ·refine A_ ?_
  refine ye (E9 Ej H E (fun _=>rz.calls) (fun x5 E w H=>nl ?_))
  refine aE E z ?_ ?_<;>intro c7 E<;>refine A_ ?_
  ·refine ye (YL Ek H 0 E z (fun _=>kv.calls (H.Gt 0 z)) (fun x6 E w H=>A_ ?_))
   refine bx (fun kk t w=>∃(l2:List Int)(x7 x8:Int)(t4:Fr),kk≤k2∧cT.l0 kk a0 a1 x6 l2 x7 x8=some r∧t=aU t4 [(0,sn),(1,.int .u64 x7),(3,.bool (decide (a0<0))),(4,.bool false),(10,sn),(11,.string dp),(12,pt b1),(13,ii x8),(14,.int .u64 (u64.wrap x6)),(15,.int .u64 (u64.wrap a1)),(16,.int .u64 (u64.wrap ((u64.wrap a1)-1))),Zc]∧St (Rs.gt).fp w0 w [.gt,.own (.int .u8) 229 (.slice (some ⟨b1,0,none⟩) 65 65) l2]) k2 Ze ?_
   rintro kk t w ⟨l2,x7,x8,t4,hk3,E,rfl,H⟩
   obtain⟨k4,rfl⟩:=Zd kk
   rw[cT.l0]at E
   refine A_ ?_
   refine aE E z ?_ ?_<;>intro c8 E<;>refine A_ ?_
   ·obtain⟨⟨g1,g2⟩,E⟩:=ar E
    refine vr (mY underlying9 z z g1 g2) ?_
    obtain⟨⟨g3,g4⟩,E⟩:=ar E
    refine vr (dm oQ z z g3 g4) (s_ (nn oT H 1 z a_ z z (fun w H=>A_ ?_)))
    obtain⟨g5,E⟩:=ar E
    refine A_ ?_
    exact⟨k4,bL _,_,_,_,_,bK hk3,E,Za,H⟩
   obtain⟨⟨g6,g7⟩,E⟩:=ar E
   refine vr (mY underlying9 z z g6 g7) ?_
   obtain⟨⟨g8,g9⟩,E⟩:=ar E
   refine vr (dm oQ z z g8 g9) (s_ (nn oT H 1 z a_ z z (fun w H=>aK ?_)))
   exact⟨k4,_,_,_,a_,E,Za,H⟩
  refine bx (fun kk t w=>∃(l3:List Int)(x9 x10:Int)(t5:Fr),kk≤k2∧cT.l1 kk a0 a1 l3 x9 x10=some r∧t=aU t5 [(0,sn),(1,.int .u64 x9),(3,.bool (decide (a0<0))),(4,.bool false),(10,sn),(11,.string dp),(12,pt b1),(13,ii x10),(17,.int .u64 (u64.wrap a1)),Zc]∧St (Rs.gt).fp w0 w [.gt,.own (.int .u8) 229 (.slice (some ⟨b1,0,none⟩) 65 65) l3]) k2 Ze ?_
  rintro kk t w ⟨l3,x9,x10,t5,hk4,E,rfl,H⟩
  obtain⟨k5,rfl⟩:=Zd kk
  rw[cT.l1]at E
  refine A_ ?_
  refine aE E z ?_ ?_<;>intro c9 E<;>refine A_ ?_
  ·obtain⟨g10,E⟩:=ar E
   refine A_ ?_
   obtain⟨⟨g11,g12⟩,E⟩:=ar E
   refine vr (mY underlying9 z z g11 g12) ?_
   obtain⟨⟨g13,g14⟩,E⟩:=ar E
   refine vr (dm oQ z z g13 g14) (s_ (nn oT H 1 z a_ z z (fun w H=>A_ ?_)))
   exact⟨k5,bL _,_,_,_,_,bK hk4,E,Za,H⟩
  obtain⟨⟨g15,g16⟩,E⟩:=ar E
  refine vr (mY underlying9 z z g15 g16) ?_
  obtain⟨⟨g17,g18⟩,E⟩:=ar E
  refine vr (dm oQ z z g17 g18) (s_ (nn oT H 1 z a_ z z (fun w H=>aK ?_)))
  exact⟨k5,_,_,_,a_,E,Za,H⟩
 rintro t w ⟨k3,l1,x4,t3,hk5,E,rfl,H⟩
 unfold cT.j2 at E
 refine cA (fun t w=>∃(k6:Nat)(l4:List Int)(x11:Int)(t6:Fr),k6≤k3∧cT.j3 k6 l4 x11=some r∧t=aU t6 [(0,sn),(4,.bool false),(10,sn),(11,.string dp),(12,pt b1),(13,ii x11),Zc]∧St (Rs.gt).fp w0 w [.gt,.own (.int .u8) 229 (.slice (some ⟨b1,0,none⟩) 65 65) l4]) ?_ ?_
 ·refine A_ ?_
  refine aE E z ?_ ?_<;>intro c10 E
  ·refine A_ ?_
   obtain⟨⟨g19,g20⟩,E⟩:=ar E
   refine vr (dm oQ z z g19 g20) (s_ (nn oT H 1 z a_ z z (fun w H=>aK ?_)))
   exact⟨k3,_,_,_,aI _,E,Za,H⟩
  refine aA ?_
  exact⟨k3,_,_,_,aI _,E,Za,H⟩
 rintro t w ⟨k6,l4,x11,t6,hk6,E,rfl,H⟩
 unfold cT.j3 at E
 refine A_ ?_
 obtain⟨⟨g21,g22⟩,E⟩:=ar E
 refine vr (OL oQ z z g21 g22) (vr (Ob underlying22 underlying5 underlying9 (H.Gt 1 z) z) (A_ ?_))
 refine⟨.inl z,.tuple #[sn,.string (strOfNums (l4.drop x11.toNat))],tk0 z ⟨ba z (ad (ad ai)) z,vr cz (vr (aX z z) (vr (aX z z) (va sn (va (.string (strOfNums (l4.drop x11.toNat))) (nl (rg (vm (.string (strOfNums (l4.drop x11.toNat))) (va (.string (strOfNums (l4.drop x11.toNat))) (nl (aj ?_))))))))))⟩⟩
 cases E
 exact⟨.inl z,_,tk0 z ⟨aB z (ad ai),z,H.bA 0 z⟩⟩
def nh.f(k:Nat)(a0 a1:Int):Option (ByteArray):=(cT.f k a0 a1).bind fun x1=>some x1
theorem nh.calls{a0 a1:Int}{r:ByteArray}(hf:(Rs.gt).inv w0)(E:nh.f k a0 a1=some r):
 Calls aa 105 #[ii a0,ii a1] w0 fun e w'=>e= .returned (.string r)∧St (Rs.gt).fp w0 w' [.gt]:=by
 have H:=St.start hf
 unfold nh.f at E
 refine Zb func105 ?_
 refine A_ ?_
 refine ye (YL Em H 0 E z (fun _=>cT.calls (H.Gt 0 z)) (fun x1 E w H=>A_ ?_))
 cases E
 exact⟨.inl z,_,tk0 z ⟨aB z (ad ai),z,H.bA 0 z⟩⟩
def eM.l0:Nat→List Int→ByteArray→Int→Option (ByteArray)
 |0,_,_,_=>none
 |k+1,a0,l1,x1=>bif decide (x1<(a0.length:Int))then(an (decide ((0:Int)≤x1∧x1<(a0.length:Int))) ((nh.f k (I W (u8.wrap (Int.tdiv (at_ 0 a0 x1) 16))) 16).bind fun x2=>an (decide (l1.size+x2.size≤140737488355328)) ((nh.f k (I W (Int.tmod (at_ 0 a0 x1) 16)) 16).bind fun x3=>an (decide ((cat l1 x2).size+x3.size≤140737488355328)) (eM.l0 k a0 (cat (cat l1 x2) x3) (I W (x1+1))))))else(some l1)
def eM.f(k:Nat)(a0:List Int):Option (ByteArray):=bif decide ((a0.length:Int)=0)then(some mc)else(eM.l0 k a0 ByteArray.empty 0)
theorem eM.calls{a0:List Int}{r:ByteArray}(hf:(Rs.gt).inv w0)(h0:Zf (Rs.gt).fp w0 v0_ a0)(E:eM.f k a0=some r):
 Calls aa 72 #[v0_] w0 fun e w'=>e= .returned (.string r)∧St (Rs.gt).fp w0 w' [.gt]:=by
 have H:=St.start hf
 unfold eM.f at E
 refine Zb func72 ?_
 refine A_ ?_
 refine aE E z ?_ ?_<;>intro c2 E
 ·refine A_ ?_
  cases E
  exact(aL ⟨.inl z,_,tk0 z ⟨aB z (ad ai),z,H.bA 0 z⟩⟩)
 refine aA (ab (rg (ye (D8 EB H (fun b3 w H=>A_ ?_)))))
 refine bx (fun kk t w=>∃(l1:ByteArray)(x1:Int)(v1:Value)(t1:Fr),kk≤k∧eM.l0 kk a0 l1 x1=some r∧t=aU t1 [(2,.string dp),(3,pt b3),(9,v0_),(10,ii (a0.length:Int)),(11,ii x1),Zc]∧St (Rs.gt).fp w0 w [.gt,.df b3 v1 (sb l1)]) k Ze ?_
 rintro kk t w ⟨l1,x1,v1,t1,hk1,E,rfl,H⟩
 obtain⟨k31,rfl⟩:=Zd kk
 rw[eM.l0]at E
 refine A_ ?_
 refine aE E z ?_ ?_<;>intro c1 E<;>refine A_ ?_
 ·obtain⟨⟨g1,g2⟩,E⟩:=ar E
  refine A_ ?_
  refine ye (YL yf H 0 E z (fun _=>nh.calls (H.Gt 0 z)) (fun x2 E w H=>?_))
  obtain⟨g3,E⟩:=ar E
  refine ye (ma H 1 z yh z z g3 (fun v2 w H=>A_ ?_))
  refine ye (YL yf H 0 E z (fun _=>nh.calls (H.Gt 0 z)) (fun x3 E w H=>?_))
  obtain⟨g4,E⟩:=ar E
  refine ye (ma H 1 z yh z z g4 (fun v3 w H=>A_ ?_))
  exact⟨k31,bL _,_,_,_,_,bK hk1,E,Za,H⟩
 refine ye (D9 H 1 z El z (fun w H=>A_ ?_))
 cases E
 exact⟨.inl z,_,tk0 z ⟨aB z (ad ai),z,H.bA 0 z⟩⟩
def bM.j0(k:Nat)(a1:ByteArray)(l1:List ByteArray):Option (ByteArray):=(strings_Join.f l1 a1).bind fun x1=>some x1
def bM.l0:Nat→List Int→ByteArray→List (ByteArray)→Int→Option (ByteArray)
 |0,_,_,_,_=>none
 |k+1,a0,a1,l1,x1=>bif decide (x1<(a0.length:Int))then(an (decide ((0:Int)≤x1∧x1<(a0.length:Int))) ((strconv_Itoa.f (at_ 0 a0 x1)).bind fun x2=>an (decide ((l1.length+([x2]).length)*16≤140737488355328)) (bM.l0 k a0 a1 (l1++([x2])) (I W (x1+1)))))else(bM.j0 k a1 l1)
def bM.f(k:Nat)(a0:List Int)(a1:ByteArray):Option (ByteArray):=bif decide ((a0.length:Int)=0)then(some mc)else(bM.l0 k a0 a1 ([]:List ByteArray) 0)
theorem bM.calls{a0:List Int}{a1:ByteArray}{r:ByteArray}(hf:(Rs.lv).inv w0)(h0:Rd (.of (.int .i64)) w0 (Ol (Rs.lv).fp w0) v0_ a0)(E:bM.f k a0 a1=some r):
 Calls aa 75 #[v0_,.string a1] w0 fun e w'=>e= .returned (.string r)∧St (Rs.lv).fp w0 w' [.lv]:=by
 have H:=St.start hf
 unfold bM.f at E
 refine Zb func75 ?_
 refine A_ ?_
 refine aE E z ?_ ?_<;>intro c2 E
 ·refine A_ ?_
  cases E
  exact(aL ⟨.inl z,_,tk0 z ⟨aB z (ad ai),z,H.bA 0 z⟩⟩)
 refine J_ ?_
 refine cA (fun t w=>∃(k1:Nat)(l1:List ByteArray)(v1:Value)(t1:Fr),k1≤k∧bM.j0 k1 a1 l1=some r∧t=aU t1 [(1,.string a1),(4,.string dp),(5,v1),Zc]∧St (Rs.lv).fp w0 w [.lv,.own .str 9 v1 l1]) ?_ ?_
 ·refine A_ ?_
  have H:=H.bB .str 9
  refine bx (fun kk t w=>∃(l2:List ByteArray)(x1:Int)(v2:Value)(t2:Fr),kk≤k∧bM.l0 kk a0 a1 l2 x1=some r∧t=aU t2 [(1,.string a1),(4,.string dp),(5,v2),(11,v0_),(12,ii (a0.length:Int)),(13,ii x1),Zc]∧St (Rs.lv).fp w0 w [.lv,.own .str 9 v2 l2]) k Ze ?_
  rintro kk t w ⟨l2,x1,v2,t2,hk1,E,rfl,H⟩
  obtain⟨k2,rfl⟩:=Zd kk
  rw[bM.l0]at E
  refine A_ ?_
  refine aE E z ?_ ?_<;>intro c1 E<;>refine A_ ?_
  ·obtain⟨⟨g1,g2⟩,E⟩:=ar E
   refine A_ ?_
   refine ye (YL qx H 0 E z (fun _=>strconv_Itoa.calls (H.Gt 0 z)) (fun x2 E w H=>ye (cL (e:=.str) (l:=[x2]) sk H z f_ ⟨z,z,acu⟩ f_ (fun v3 w H=>?_))))
   obtain⟨g3,E⟩:=ar E
   refine ye (dZ sk H 1 z (ao (H.Gt 2 z)) z z a_ u_ (fun v4 w H=>A_ ?_))
   exact⟨k2,bL _,_,_,_,_,bK hk1,E,Za,H.Y8 [0,1]⟩
  exact⟨k2,_,_,_,a_,E,Za,H⟩
 rintro t w ⟨k1,l1,v1,t1,hk2,E,rfl,H⟩
 unfold bM.j0 at E
 refine A_ ?_
 refine ye (E9 yg H E (fun _=>strings_Join.calls (H.own 1 z (ao (H.Gt 1 z)))) (fun x3 E w H=>A_ ?_))
 cases E
 exact⟨.inl z,_,tk0 z ⟨aB z (ad ai),z,H.bA 0 z⟩⟩
def kV.f(a0:List ByteArray):Option (ByteArray):=(strings_Join.f a0 gX).bind fun x1=>some x1
theorem kV.calls{a0:List ByteArray}{r:ByteArray}(h0:Rd (.of .str) w0 (Ol no w0) v0_ a0)(E:kV.f a0=some r):
 Calls aa 74 #[v0_] w0 fun e w'=>e= .returned (.string r)∧St no w0 w' []:=by
 have H:=St.nil no w0
 unfold kV.f at E
 refine Zb func74 ?_
 refine A_ ?_
 refine ye (E9 yg H E (fun _=>strings_Join.calls (H.arg (H.rd h0))) (fun x1 E w H=>A_ ?_))
 cases E
 exact⟨.inl z,_,tk0 z ⟨aB z (ad ai),z,H.bs⟩⟩
def jT.f(a0:Int):Option (ByteArray):=(strconv_Itoa.f (I W a0)).bind fun x1=>(kV.f ([yj,x1])).bind fun x4=>some x4
theorem jT.calls{a0:Int}{r:ByteArray}(hf:(Rs.lv).inv w0)(E:jT.f a0=some r):
 Calls aa 68 #[.int .u16 a0] w0 fun e w'=>e= .returned (.string r)∧St (Rs.lv).fp w0 w' [.lv]:=by
 have H:=St.start hf
 unfold jT.f at E
 refine Zb func68 ?_
 refine A_ ?_
 refine ye (YL qx H 0 E z (fun _=>strconv_Itoa.calls (H.Gt 0 z)) (fun x1 E w H=>ye (cL (e:=.str) (l:=[yj,x1]) sk H z f_ ⟨z,z,z,z,acu⟩ f_ (fun v3 w H=>?_))))
 refine ye (E9 Eo H E (fun _=>kV.calls (H.own 1 z (ao (H.Gt 1 z)))) (fun x4 E w H=>A_ ?_))
 cases E
 exact⟨.inl z,_,tk0 z ⟨aB z (ad ai),z,H.bA 0 z⟩⟩
def fR.l0:Nat→List ByteArray→List (Int)→Int→Option (List Int×Bool)
 |0,_,_,_=>none
 |k+1,a0,l1,x1=>bif decide (x1<(a0.length:Int))then(an (decide ((0:Int)≤x1∧x1<(a0.length:Int))) (bif decide (at_ ByteArray.empty a0 x1=dp)then(some (([]:List Int),false))else(bif decide (4<((at_ ByteArray.empty a0 x1).size:Int))then(some (([]:List Int),false))else((ni.f (at_ ByteArray.empty a0 x1) so).bind fun x2=>bif !decide (x2=dp)then(some (([]:List Int),false))else((strconv_Atoi.f (at_ ByteArray.empty a0 x1)).bind fun x3=>an (decide ((l1.length+([x3]).length)*8≤140737488355328)) (fR.l0 k a0 (l1++([x3])) (I W (x1+1))))))))else(some (l1,true))
def fR.f(k:Nat)(a0:List ByteArray):Option (List Int×Bool):=fR.l0 k a0 ([]:List Int) 0
theorem fR.calls{a0:List ByteArray}{r:List Int×Bool}(hf:(Rs.lv).inv w0)(h0:Rd (.of .str) w0 (Ol (Rs.lv).fp w0) v0_ a0)(E:fR.f k a0=some r):
 Calls aa 66 #[v0_] w0 fun e w'=>∃(u0:Value),e= .returned (.tuple #[u0,.bool r.2])∧St (Rs.lv).fp w0 w' [.lv,Zh u0 r.1]:=by
 have H:=St.start hf
 unfold fR.f at E
 refine Zb func66 ?_
 refine A_ ?_
 have H:=H.bB (.int .i64) 3
 refine bx (fun kk t w=>∃(l1:List Int)(x1:Int)(v1:Value)(t1:Fr),kk≤k∧fR.l0 kk a0 l1 x1=some r∧t=aU t1 [(2,sn),(3,.bool false),(4,v1),(9,v0_),(10,ii (a0.length:Int)),(11,ii x1),Zc]∧St (Rs.lv).fp w0 w [.lv,Zh v1 l1]) k Ze ?_
 rintro kk t w ⟨l1,x1,v1,t1,hk1,E,rfl,H⟩
 obtain⟨k1,rfl⟩:=Zd kk
 rw[fR.l0]at E
 refine A_ ?_
 refine aE E z ?_ ?_<;>intro c1 E<;>refine A_ ?_
 ·obtain⟨⟨g1,g2⟩,E⟩:=ar E
  refine A_ ?_
  refine vr (lO (e:=.str) (j:=0) Ez (H.rd h0) (ga ByteArray.empty g1 g2) z z) (A_ ?_)
  refine vr (ov z z) (A_ ?_)
  rcases bR (decide (at_ ByteArray.empty a0 x1=dp))with c2|c2
  ·have E:=iT c2 E
   refine A_ ?_
   have H:=H.bB (.int .i64) 3
   cases E
   exact(aL (bG (aL (aL (bG (aL ⟨.inl z,_,tk0 z ⟨aB z (ad (ad ai)),_,z,H.bN 0 2 z z z⟩⟩))))))
  have E:=iF c2 E
  refine A_ ?_
  refine oo c2 z (uh uR z) (A_ ?_)
  rcases bR (decide (4<((at_ ByteArray.empty a0 x1).size:Int)))with c3|c3
  ·have E:=iT c3 E
   refine A_ ?_
   have H:=H.bB (.int .i64) 3
   cases E
   exact(aL (bG (aL (aL (bG (aL ⟨.inl z,_,tk0 z ⟨aB z (ad (ad ai)),_,z,H.bN 0 2 z z z⟩⟩))))))
  have E:=iF c3 E
  refine A_ ?_
  refine dP z c3 z (E9 Et H E (fun _=>ni.calls) (fun x2 E w H=>oo c3 z (OQ z z) (A_ ?_)))
  refine aE E z ?_ ?_<;>intro c4 E<;>refine A_ ?_
  ·have H:=H.bB (.int .i64) 3
   cases E
   exact(aL (bG (aL (aL (bG (aL ⟨.inl z,_,tk0 z ⟨aB z (ad (ad ai)),_,z,H.bN 0 2 z z z⟩⟩))))))
  refine ye (E9 Eu H E (fun _=>strconv_Atoi.calls) (fun x3 E w H=>A_ ?_))
  refine ye (cL (e:=(.int .i64)) (l:=[x3]) uS H z f_ ⟨z,z,acu⟩ f_ (fun v2 w H=>?_))
  obtain⟨g3,E⟩:=ar E
  refine ye (dZ uS H 1 z (ao (H.Gt 2 z)) z z a_ u_ (fun v3 w H=>A_ ?_))
  exact⟨k1,bL _,_,_,_,_,bK hk1,E,Za,H.Y8 [0,1]⟩
 cases E
 exact⟨.inl z,_,tk0 z ⟨aB z (ad (ad ai)),_,z,H.bN 0 1 z z z⟩⟩
def jU.j0(a0:Int)(x3:Bool):Option (Int×Bool):=bif x3 then(some (u8.wrap (i32.wrap (a0-48)),true))else(bif decide (97≤a0)then(bif decide (a0≤102)then(some (u8.wrap (u8.wrap (i32.wrap (a0-97))+10),true))else(some (0,false)))else(some (0,false)))
def jU.f(a0:Int):Option (Int×Bool):=bif decide (48≤a0)then(jU.j0 a0 (decide (a0≤57)))else(jU.j0 a0 false)
theorem jU.calls{a0:Int}{r:Int×Bool}(E:jU.f a0=some r):
 Calls aa 100 #[.int .i32 a0] w0 fun e w'=>e= .returned (.tuple #[iu r.1,.bool r.2])∧St no w0 w' []:=by
 have H:=St.nil no w0
 unfold jU.f at E
 refine Zb func100 ?_
 obtain⟨k,_⟩:∃k:Nat,k=0:=⟨0,rfl⟩
 refine rg (va (iu 0) (va (.bool false) (nl (ae (aG ?_)))))
 refine cA (fun t w=>∃(k5:Nat)(x3:Bool)(t4:Fr),k5≤k∧jU.j0 a0 x3=some r∧t=aU t4 [(0,.int .i32 a0),(2,iu 0),(3,.bool false),(4,.bool x3),Zc]∧St no w0 w []) ?_ ?_
 ·refine A_ ?_
  rcases bR (decide (48≤a0))with c7|c7
  ·have E:=iT c7 E
   refine A_ ?_
   exact⟨k,_,_,aI _,E,Za,H⟩
  have E:=iF c7 E
  refine A_ ?_
  exact⟨k,_,_,aI _,E,Za,H⟩
 rintro t w ⟨k5,x3,t4,hk6,E,rfl,H⟩
 unfold jU.j0 at E
 refine aE E z ?_ ?_<;>intro c8 E<;>refine A_ ?_
 ·cases E
  exact(bG (aL ⟨.inl z,_,tk0 z ⟨aB z (ad (ad ai)),z,H.bs⟩⟩))
 rcases bR (decide (97≤a0))with c9|c9
 ·have E:=iT c9 E
  refine A_ ?_
  refine aE E z ?_ ?_<;>intro c1 E<;>refine A_ ?_
  ·cases E
   exact(bG (aL ⟨.inl z,_,tk0 z ⟨aB z (ad (ad ai)),z,H.bs⟩⟩))
  cases E
  exact⟨.inl z,_,tk0 z ⟨aB z (ad (ad ai)),z,H.bs⟩⟩
 have E:=iF c9 E
 refine A_ ?_
 cases E
 exact⟨.inl z,_,tk0 z ⟨aB z (ad (ad ai)),z,H.bs⟩⟩
def fx.l0:Nat→ByteArray→List (Int)→Nat→Option (List Int×Bool)
 |0,_,_,_=>none
 |k+1,a0,l1,l2=>bif decide (l2<a0.size)then((jU.f (ml a0 l2)).bind fun x1=>bif !x1.2 then(some (([]:List Int),false))else(an (decide ((0:Int)≤I W (Int.tdiv (l2:Int) 2)∧I W (Int.tdiv (l2:Int) 2)<(l1.length:Int))) (an (decide ((0:Int)≤I W (Int.tdiv (l2:Int) 2)∧I W (Int.tdiv (l2:Int) 2)<(l1.length:Int))) (fx.l0 k a0 (l1.set (I W (Int.tdiv (l2:Int) 2)).toNat (bits .or .u8 (u8.wrap (at_ 0 l1 (I W (Int.tdiv (l2:Int) 2))*2^min (4:Int).toNat 8)) x1.1)) (l2+o0 a0 l2)))))else(some (l1,true))
def fx.f(k:Nat)(a0:ByteArray):Option (List Int×Bool):=bif decide (a0=mc)then(some (([]:List Int),true))else(bif decide (a0=dp)then(some (([]:List Int),false))else(bif decide (Int.tmod (a0.size:Int) 2=1)then(some (([]:List Int),false))else(an (decide ((0:Int)≤I W (Int.tdiv (a0.size:Int) 2)∧I W (Int.tdiv (a0.size:Int) 2)≤I W (Int.tdiv (a0.size:Int) 2)∧I W (Int.tdiv (a0.size:Int) 2)≤140737488355328)) (fx.l0 k a0 (List.replicate (I W (Int.tdiv (a0.size:Int) 2)).toNat (0:Int)) 0))))
theorem fx.calls{a0:ByteArray}{r:List Int×Bool}(E:fx.f k a0=some r):
 Calls aa 70 #[.string a0] w0 fun e w'=>∃(u0:Value),e= .returned (.tuple #[u0,.bool r.2])∧St no w0 w' [Y9 u0 r.1]:=by
 have H:=St.nil no w0
 unfold fx.f at E
 refine Zb func70 ?_
 refine A_ ?_
 refine vr (ov z z) (nl ?_)
 refine aE E z ?_ ?_<;>intro c2 E<;>refine A_ ?_
 ·have H:=H.bB (.int .u8) 5
  cases E
  exact(aL ⟨.inl z,_,tk0 z ⟨aB z (ad (ad ai)),_,z,H.bA 0 z⟩⟩)
 refine vr (ov z z) (A_ ?_)
 rcases bR (decide (a0=dp))with c5|c5
 ·have E:=iT c5 E
  refine A_ ?_
  have H:=H.bB (.int .u8) 5
  cases E
  exact(aL ⟨.inl z,_,tk0 z ⟨aB z (ad (ad ai)),_,z,H.bA 0 z⟩⟩)
 have E:=iF c5 E
 refine A_ ?_
 refine oo c5 z (uh uR z) (A_ ?_)
 refine aE E z ?_ ?_<;>intro c6 E<;>refine A_ ?_
 ·have H:=H.bB (.int .u8) 5
  cases E
  exact(aL ⟨.inl z,_,tk0 z ⟨aB z (ad (ad ai)),_,z,H.bA 0 z⟩⟩)
 refine vr (uh uR z) (A_ ?_)
 obtain⟨⟨g8,g9,g1⟩,E⟩:=ar E
 refine ye (ee (e:=(.int .u8)) (z0:=0) mb z H z z g8 g9 a_ a_ (fun v7 w H=>A_ ?_))
 refine ye (Q9 underlying9 H z (fun b1 w H=>A_ ?_))
 refine bx (fun kk t w=>∃(l1:List Int)(l2:Nat)(t1:Fr),kk≤k∧fx.l0 kk a0 l1 l2=some r∧t=aU t1 [(2,sn),(3,.bool false),(4,v7),(24,pt b1),Zc]∧St no w0 w [Y9 v7 l1,.pM b1 a0 l2]) k Ze ?_
 rintro kk t w ⟨l1,l2,t1,hk1,E,rfl,H⟩
 obtain⟨k1,rfl⟩:=Zd kk
 rw[fx.l0]at E
 refine rg ?_
 rcases bR (decide (l2<a0.size))with c1|c1
 ·have E:=iT c1 E
  refine ye (Q8 H 1 z z c1 (fun w H=>A_ ?_))
  refine ye (E9 Ei H E (fun _=>jU.calls) (fun x1 E w H=>A_ ?_))
  refine aE E z ?_ ?_<;>intro c3 E<;>refine A_ ?_
  ·have H:=H.bB (.int .u8) 5
   cases E
   exact(aL (bG (aL (bG (aL ⟨.inl z,_,tk0 z ⟨aB z (ad (ad ai)),_,z,H.bA 2 z⟩⟩)))))
  obtain⟨⟨g2,g3⟩,E⟩:=ar E
  refine A_ ?_
  obtain⟨⟨g4,g5⟩,E⟩:=ar E
  refine A_ ?_
  refine s_ (dc oT H 0 z g4 g5 z z (fun w H=>A_ ?_))
  exact⟨k1,bL _,_,_,_,bK hk1,E,Za,H⟩
 have E:=iF c1 E
 refine vr (Q7 (H.Gt 1 z) z c1) (A_ ?_)
 cases E
 exact⟨.inl z,_,tk0 z ⟨aB z (ad (ad ai)),_,z,H.bA 0 z⟩⟩
def nV.f(a0:Int×Int×Int):Option (ByteArray):=(strconv_Itoa.f a0.1).bind fun x2=>an (decide ((lf.size+x2.size:Nat)≤140737488355328)) (an (decide (((cat lf x2).size+gX.size:Nat)≤140737488355328)) ((strconv_Itoa.f a0.2.1).bind fun x6=>an (decide (((cat (cat lf x2) gX).size+x6.size:Nat)≤140737488355328)) (an (decide (((cat (cat (cat lf x2) gX) x6).size+gX.size:Nat)≤140737488355328)) ((strconv_Itoa.f a0.2.2).bind fun x1=>an (decide (((cat (cat (cat (cat lf x2) gX) x6) gX).size+x1.size:Nat)≤140737488355328)) (an (decide (((cat (cat (cat (cat (cat lf x2) gX) x6) gX) x1).size+sr.size:Nat)≤140737488355328)) (some (cat (cat (cat (cat (cat (cat lf x2) gX) x6) gX) x1) sr)))))))
theorem nV.calls{a0:Int×Int×Int}{r:ByteArray}(hf:(Rs.lv).inv w0)(E:nV.f a0=some r):
 Calls aa 14 #[.agg #[ii a0.1,ii a0.2.1,ii a0.2.2]] w0 fun e w'=>e= .returned (.string r)∧St (Rs.lv).fp w0 w' [.lv]:=by
 have H:=St.start hf
 unfold nV.f at E
 refine Zb func14 ?_
 refine rg (ye (bc (cs:=#[ii a0.1,ii a0.2.1,ii a0.2.2]) H z (fun b1 w H=>A_ ?_)))
 refine cd (ds:=[]) yi H z z ?_
 have H:=H.drew
 refine B_ [0,1,5,6,10,11] H ?_
 refine wo 2 z (YL qx H 0 E z (fun _=>strconv_Itoa.calls (H.Gt 0 z)) (fun x2 E w H=>⟨fun _=>H.Y8 [0,1],?_⟩))
 obtain⟨g4,E⟩:=ar E
 refine wg 3 z (H.Y8 [0,1]) (cJ z z g4) ?_
 obtain⟨g5,E⟩:=ar E
 refine wg 4 z (H.Y8 [0,1]) (cJ z z g5) ?_
 refine wo 7 z (YL qx H 0 E z (fun _=>strconv_Itoa.calls (H.Gt 0 z)) (fun x6 E w H=>⟨fun _=>H.Y8 [0,1],?_⟩))
 obtain⟨g8,E⟩:=ar E
 refine wg 8 z (H.Y8 [0,1]) (cJ z z g8) ?_
 obtain⟨g9,E⟩:=ar E
 refine wg 9 z (H.Y8 [0,1]) (cJ z z g9) ?_
 refine wo 12 z (YL qx H 0 E z (fun _=>strconv_Itoa.calls (H.Gt 0 z)) (fun x1 E w H=>⟨fun _=>H.Y8 [0,1],?_⟩))
 obtain⟨g1,E⟩:=ar E
 refine wg 13 z (H.Y8 [0,1]) (cJ z z g1) ?_
 obtain⟨g2,E⟩:=ar E
 refine wg 14 z (H.Y8 [0,1]) (cJ z z g2) (B_ [15] (H.Y8 [0,1]) ?_)
 cases E
 exact⟨.inl z,_,tk0 z ⟨aB z (ad ai),z,H.bA 0 z⟩⟩
end Go.Proofs.YtmhkpafkadijgaaGreatDoor.Gw
