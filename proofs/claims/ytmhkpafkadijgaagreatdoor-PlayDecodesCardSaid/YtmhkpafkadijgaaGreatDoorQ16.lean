/- A part of the proof of Rows.PlayDecodesCardSaid; the conditions are that card's own. -/
import Derived.Test.YtmhkpafkadijgaaGreatDoorQ15
set_option linter.all false
set_option maxRecDepth 100000
set_option maxHeartbeats 4000000
namespace Go.Proofs.YtmhkpafkadijgaaGreatDoor.Gw
open Go.IntKind renaming wrap→I,i64→W
open Go Go.RowKit
variable[de]
open Go.IntKind (i8 i16 i32 i64 u8 u16 u32 u64)
open Tryz hiding prog
open Tryz renaming prog → aa
variable{w0:World}{k:Nat}{F_:FD}{v0_4_ v0_5_ v1_ v2_:Value}
def jH.l0:Nat→Int→List (Int)→List (Int)→List (Int)→List (Int)→Option (List Int×List Int)
 |0,_,_,_,_,_=>none
 |k+1,a3,l1,l2,l3,l4=>(eN.f k l2).bind fun x1=>bif decide (max2 a3 0≤x1)then((cU.f k l1 l2).bind fun x2=>(cZ.f k x2.1 l3).bind fun x3=>(Sp.f k l4 x3).bind fun x4=>jH.l0 k a3 l2 x2.2.1 x4 l3)else(some (l2,l3))
def jH.f(k:Nat)(a1 a2:List Int)(a3:Int):Option (List Int×List Int):=(cX.f k a1).bind fun x1=>(cX.f k a2).bind fun x2=>jH.l0 k a3 x1 x2 ([1]) ([]:List Int)
theorem jH.calls{a1 a2:List Int}{a3:Int}{r:List Int×List Int}(hf:(Rs.ah F_).inv w0)(h1:Rd (.of (.int .u8)) w0 (Ol (Rs.ah F_).fp w0) v1_ a1)(h2:Rd (.of (.int .u8)) w0 (Ol (Rs.ah F_).fp w0) v2_ a2)(E:jH.f k a1 a2 a3=some r):
 Calls aa 269 #[pt F_.p,v1_,v2_,ii a3] w0 fun e w'=>∃(u0 u1:Value),e= .returned (.tuple #[u0,u1])∧St (Rs.ah F_).fp w0 w' [.ah F_,.own (.int .u8) 5 u0 r.1,.own (.int .u8) 5 u1 r.2]:=by
 have H:=St.start hf
 unfold jH.f at E
 refine aP (N:=27) (args:=[pt F_.p,v1_,v2_,ii a3]) Tryz.func269 z z j_ ?_
 have H:=H.mk0
 refine rg (va sn (va sn (nl (ae (rg (vm (pt F_.p) (vr (cV Tryz.underlying111 z z) (nl (bS z (aA (ab (rg (ye (cr kp H (fun b1 w H=>nl (ae (rg (vm (pt F_.p) (vm v1_ (vm v2_ (vm (ii a3) (ye (cm 10 [pt F_.p,v1_,v2_,ii a3] HC Tryz.func311 z z z z (rg (ye (bc (cs:=#[pt F_.p]) H z (fun b2 w H=>?_)))))))))))))))))))))))))))
 obtain⟨p1,n1,c1,rfl⟩:=eO h1
 refine ye (bc (cs:=#[(.slice p1 n1 c1)]) H z (fun b3 w H=>?_))
 obtain⟨p2,n3,c2,rfl⟩:=eO h2
 refine ye (bc (cs:=#[(.slice p2 n3 c2)]) H z (fun b4 w H=>ye (bc (cs:=#[ii a3]) H z (fun b5 w H=>?_))))
 have H:St _ _ _ [_,_,_,_,_,_,_]:=H
 refine va (.nilFunc) (nl (rg (vr (dt [pt b3,pt b4,pt b5,pt b2] z) (va (.func (.func 343) #[] #[pt b3,pt b4,pt b5,pt b2]) (nl (aj (⟨.inl z,.func (.func 343) #[] #[pt b3,pt b4,pt b5,pt b2],tk0 z ⟨ba z (ad ai) z,nl (aG (je 29 [pt b3,pt b4,pt b5,pt b2] z Tryz.func343 z z z z z H 1 z z (fun v1 b6 o1 w hO1 H=>ae (cd (ds:=[]) bZ H z z ?_))))⟩⟩)))))))
 have H:=H.drew
 refine wz 0 z H (fun w H=>av bQ z (ak (H.Gt 4 z) z)) (wz 2 z H (fun w H=>av bQ z (ak (H.Gt 5 z) z)) ?_)
 obtain⟨x1,E1,E⟩:=ay E
 obtain⟨x2,E2,E⟩:=ay E
 refine DU (C:=fun t w=>∃(b7:Nat)(p3:Option Addr)(n4 c3:Nat)(p4:Option Addr)(n5 c4:Nat)(p5:Option Addr)(n6 c5:Nat)(t1:Fr),t=aU t1 [(0,.func (.yield b6) #[] #[]),(3,pt b5),(4,pt b2),(6,pt b7),(14,.agg #[(.slice p3 n4 c3),(.slice p4 n5 c4),sn,(.slice p5 n6 c5)]),(1000000,undef)]∧St (Rs.ah F_).fp w0 w [.ah F_,.bO v1,.blk b1 #[sn,sn,sn,sn] 395,.blk b2 #[pt F_.p] 111,.blk b3 #[(.slice p1 n1 c1)] 22,.blk b4 #[(.slice p2 n3 c2)] 22,.blk b5 #[ii a3] 3,.obj b6 (.loop o1),.own (.int .u8) 5 (.slice p3 n4 c3) x1,.own (.int .u8) 5 (.slice p4 n5 c4) x2,.own (.int .u8) 5 (.slice p5 n6 c5) ([1]),.blk b7 #[sn,sn,sn,sn] 395]) (l2:=tf 9 10) (n2:=1) ?_ fun cut44=>?_
 ·rintro t w ⟨b7,p3,n4,c3,p4,n5,c4,p5,n6,c5,t1,rfl,H⟩
  have H:St _ _ _ [_,_,_,_,_,_,_,_,_,_,_,_]:=H
  refine wo 9 z (cy vz H 11 z z z z z z (fun w H=>⟨fun _=>H.ag [0,1,2,3,4,5,6,7] z z,wd (ab (aG ?_))⟩))
  have H:=H.bB (.int .u8) 5
  refine bx (fun kk t w=>∃(l1 l3 l4 l5:List Int)(v2 v3 v4 v5 z1 z2 z3 z4:Value)(t2:Fr),kk≤k∧jH.l0 kk a3 l1 l3 l4 l5=some r∧t=aU t2 [(0,.func (.yield b6) #[] #[]),(3,pt b5),(4,pt b2),(6,pt b7),(1000000,undef)]∧St (Rs.ah F_).fp w0 w [.ah F_,.bO v1,.blk b1 #[z1,z2,z3,z4] 395,.blk b2 #[pt F_.p] 111,.blk b3 #[(.slice p1 n1 c1)] 22,.blk b4 #[(.slice p2 n3 c2)] 22,.blk b5 #[ii a3] 3,.obj b6 (.loop o1),.own (.int .u8) 5 v2 l1,.own (.int .u8) 5 v3 l3,.own (.int .u8) 5 v4 l4,.blk b7 #[v2,v3,v5,v4] 395,.own (.int .u8) 5 v5 l5]) k ?_ ?_
  ·exact⟨_,_,_,_,_,_,_,_,_,_,_,_,_,aI _,E,aD ⟨z,z,z,z,z,acu⟩,H⟩
  rintro kk t w ⟨l1,l3,l4,l5,v2,v3,v4,v5,z1,z2,z3,z4,t2,hk1,E,rfl,H⟩
  obtain⟨k1,rfl⟩|rfl:=ks kk
  rotate_left
  ·cases E
  rw[jH.l0]at E
  refine ae (ae (eZ (ds:=[]) (fun w=>∃cs':Array Value,St (Rs.ah F_).fp w0 w [.ah F_,.bO v1,.blk b1 cs' 395,.blk b2 #[pt F_.p] 111,.blk b3 #[(.slice p1 n1 c1)] 22,.blk b4 #[(.slice p2 n3 c2)] 22,.blk b5 #[ii a3] 3,.obj b6 (.loop o1),.own (.int .u8) 5 v2 l1,.own (.int .u8) 5 v3 l3,.own (.int .u8) 5 v4 l4,.blk b7 #[v2,v3,v5,v4] 395,.own (.int .u8) 5 v5 l5]) bZ H z z ?_))
  have H:=H.drew
  refine wm 0 z ⟨_,H⟩ (.func (.yield b6) #[] #[]) (wz 1 z ⟨_,H⟩ (fun w ⟨cs',H⟩=>bp (l:=[v2,v3,v5,v4]) zg (H.Gt 11 z) z z z) (wo 2 z (jf [.agg #[v2,v3,v5,v4]] z z H 7 z hO1 z z (aH (ye (cr kp H (fun b8 w H=>?_)))))))
  obtain⟨p6,n7,c6,rfl⟩:=bX (H.Gt 8 z)
  obtain⟨p7,n8,c7,rfl⟩:=bX (H.Gt 9 z)
  obtain⟨p8,n9,c8,rfl⟩:=bX (H.Gt 12 z)
  obtain⟨p9,n10,c9,rfl⟩:=bX (H.Gt 10 z)
  refine s_ (cy vz H 13 z z z z z z (fun w H=>aK (yB H 7 z hO1 (fun w H=>aG (aH (vr (bp (l:=[(.slice p6 n7 c6),(.slice p7 n8 c7),(.slice p8 n9 c8),(.slice p9 n10 c9)]) zg (H.Gt 13 z) z z z) (s_ (cy vz H 2 z z z z z z (fun w H=>aK (aR (yN H 7 z hO1 (fun w H=>⟨fun _=>⟨_,H.ag [0,1,2,3,4,5,6,7,8,9,10,11,12] z z⟩,wm 3 z ⟨_,H.ag [0,1,2,3,4,5,6,7,8,9,10,11,12] z z⟩ (.bool true) (wn 4 z z z z ⟨_,H.ag [0,1,2,3,4,5,6,7,8,9,10,11,12] z z⟩ (fun w ⟨cs',H⟩=>az zE z) (wn 5 z z z z ⟨_,H.ag [0,1,2,3,4,5,6,7,8,9,10,11,12] z z⟩ (fun w ⟨cs',H⟩=>bJ (dm vc z z f_ f_) (v':=.pointer (some ⟨b7,1,none⟩)) z) (wn 6 z z z z ⟨_,H.ag [0,1,2,3,4,5,6,7,8,9,10,11,12] z z⟩ (fun w ⟨cs',H⟩=>av bQ z (ak (H.Gt 11 z) z)) (wn 8 z z z z ⟨_,H.ag [0,1,2,3,4,5,6,7,8,9,10,11,12] z z⟩ (fun w ⟨cs',H⟩=>av bf z (ak (H.Gt 6 z) z)) (wn 9 z z z z ⟨_,H.ag [0,1,2,3,4,5,6,7,8,9,10,11,12] z z⟩ (fun w ⟨cs',H⟩=>uj z z) ?_)))))⟩))))))))))))
  refine wp 7 z z z z (E9 qW H E (fun _ h=>eN.calls (H.own 9 z (ao (H.Gt 9 z))) h) (fun x3 E w H=>⟨fun _=>⟨_,H.ag [0,1,2,3,4,5,6,7,8,9,10,11,12] z z⟩,wn 10 z z z z ⟨_,H.ag [0,1,2,3,4,5,6,7,8,9,10,11,12] z z⟩ (fun w ⟨cs',H⟩=>dq z z) (wg 11 z ⟨_,H.ag [0,1,2,3,4,5,6,7,8,9,10,11,12] z z⟩ (pT (.bool (decide (max2 a3 0≤x3))) z z z) (wd (ab ?_)))⟩))
  refine aE E z (fun c10 E=>?_) (fun c10 E=>?_)
  ·refine aA (ab (aG (aH (vr (av dk z (ak (H.Gt 3 z) z)) (ye (cm 56 [pt b7,pt F_.p] Wq Tryz.func344 z z z z (ae (cd (ds:=[]) bZ H z z ?_))))))))
   have H:=H.drew
   refine wm 0 z H (pt F_.p) (wm 1 z H (pt b7) (wg 2 z H (bw z) (wg 3 z H (az zE z) (wz 4 z H (fun w H=>bJ (dm vc z z f_ f_) (v':=pt b7) z) (wz 5 z H (fun w H=>av bQ z (ak (H.Gt 11 z) z)) (wm 6 z H (pt b7) (wg 7 z H (bw z) (wg 8 z H (az zE z) (wz 9 z H (fun w H=>bJ (dm vc z z f_ f_) (v':=.pointer (some ⟨b7,1,none⟩)) z) (wz 10 z H (fun w H=>av bQ z (ak (H.Gt 11 z) z)) ?_))))))))))
   obtain⟨x4,E4,E⟩:=ay E
   refine wo 11 z (au zl z ((cU.calls (H.Gt 0 z) (H.cb 8 0 z z z (ao (H.Gt 8 z))) (H.cb 9 0 z z z (ao (H.Gt 9 z))) E4).mono ?_))
   rintro _ w ⟨v6,v7,rfl,K⟩
   have H:=H.aV 0 z K
   refine⟨_,z,⟨fun _=>H.ag [0,1,2,3,4,5,6,7,8,9,10,11,12,13] z z,?_⟩⟩
   have H:St _ _ _ [_,_,_,_,_,_,_,_,_,_,_,_,_,_,_,_]:=H
   refine wg 12 z (H.ag [0,1,2,3,4,5,6,7,8,9,10,11,12,13] z z) cz (wg 13 z (H.ag [0,1,2,3,4,5,6,7,8,9,10,11,12,13] z z) (aX z z) (wg 14 z (H.ag [0,1,2,3,4,5,6,7,8,9,10,11,12,13] z z) (aX z z) (wg 15 z (H.ag [0,1,2,3,4,5,6,7,8,9,10,11,12,13] z z) (aX z z) (wy 16 z (H.ag [0,1,2,3,4,5,6,7,8,9,10,11,12,13] z z) (sg v6 z) (wy 17 z (H.ag [0,1,2,3,4,5,6,7,8,9,10,11,12,13] z z) (sg v7 z) (wg 18 z (H.ag [0,1,2,3,4,5,6,7,8,9,10,11,12,13] z z) (sg (.bool x4.2.2) z) (wd (ab (rg (vm (pt b7) (vm (pt b7) (vr (bw z) (vr (az zE z) (vr (bJ (dm vc z z f_ f_) (v':=.pointer (some ⟨b7,1,none⟩)) z) (vr (av bQ z (ak (H.Gt 11 z) z)) (vm v7 ?_))))))))))))))))
   obtain⟨p10,n11,c11,rfl⟩:=bX (H.Gt 15 z)
   refine vr (ff (cs:=[(.slice p7 n8 c7),(.slice p10 n11 c11)]) fq z) (vr (bw z) (vr (az zE z) (s_ (cy Uh H 11 z z z z z z (fun w H=>nl (cd (ds:=[23]) bZ H z z ?_))))))
   have H:=H.drew
   refine wm 0 z H (pt b7) (wm 1 z H (pt b7) (wg 2 z H (bw z) (wg 3 z H (az Ie z) (wz 4 z H (fun w H=>bJ (dm vc z z f_ f_) (v':=.pointer (some ⟨b7,3,none⟩)) z) (wz 5 z H (fun w H=>av bQ z (ak (H.Gt 11 z) z)) (wm 6 z H (pt b7) (wg 7 z H (bw z) (wg 8 z H (az Ie z) (wz 9 z H (fun w H=>bJ (dm vc z z f_ f_) (v':=.pointer (some ⟨b7,2,none⟩)) z) (wz 10 z H (fun w H=>av bQ z (ak (H.Gt 11 z) z)) (wm 11 z H (pt F_.p) (wm 12 z H v6 (wm 13 z H (pt b7) (wg 14 z H (bw z) (wg 15 z H (az Ie z) (wz 16 z H (fun w H=>bJ (dm vc z z f_ f_) (v':=.pointer (some ⟨b7,3,none⟩)) z) (wz 17 z H (fun w H=>av bQ z (ak (H.Gt 11 z) z)) ?_)))))))))))))))))
   refine wo 18 z (YN qV H 0 E z (fun _ h=>cZ.calls (H.Gt 0 z) (H.cb 14 0 z z z (ao (H.Gt 14 z))) (H.cb 10 0 z z z (ao (H.Gt 10 z))) h) (fun x5 E v8 w H=>⟨fun _=>H.ag [0,1,2,3,4,5,6,7,8,9,10,11,12,13,14,15] z z,?_⟩))
   refine wo 19 z (YM Ug H E (fun _ h=>Sp.calls (H.own 12 z (ao (H.Gt 12 z))) (H.own 16 z (ao (H.Gt 16 z))) h) (fun x6 E v9 w H=>⟨fun _=>H.ag [0,1,2,3,4,5,6,7,8,9,10,11,12,13,14,15] z z,?_⟩))
   obtain⟨p11,n12,c12,rfl⟩:=bX (H.Gt 17 z)
   refine wy 20 z (H.ag [0,1,2,3,4,5,6,7,8,9,10,11,12,13,14,15] z z) (ff (cs:=[(.slice p9 n10 c9),(.slice p11 n12 c12)]) fq z) (wy 21 z (H.ag [0,1,2,3,4,5,6,7,8,9,10,11,12,13,14,15] z z) (bw z) (wg 22 z (H.ag [0,1,2,3,4,5,6,7,8,9,10,11,12,13,14,15] z z) (az Ie z) (wo 23 z (cy Uh H 11 z z z z z z (fun w H=>⟨fun h=>(h f_).elim,wd (⟨.inr z,.tuple #[],tk0 z ⟨ba z ai z,aK (aR ?_)⟩⟩)⟩)))))
   exact⟨k1,bL _,_,_,_,_,_,_,_,_,_,_,_,_,_,bK hk1,E,aD ⟨z,z,z,z,z,acu⟩,H.ag [0,1,2,3,4,5,6,7,9,15,17,11,10] z z⟩
  refine bt (aM (aM (bu (⟨.inr z,.tuple #[],tk0 z ⟨ba z ai z,ji H 7 z hO1 (fun w H=>aR (ab (ae (cd (ds:=[]) bZ H z z ?_))))⟩⟩))))
  have H:=H.drew
  refine wg 0 z H (az zE z) (wz 1 z H (fun w H=>bJ (dm vc z z f_ f_) (v':=.pointer (some ⟨b1,1,none⟩)) z) (wz 2 z H (fun w H=>av bQ z (ak (H.Gt 2 z) z)) (wg 3 z H (az Ie z) (wz 4 z H (fun w H=>bJ (dm vc z z f_ f_) (v':=.pointer (some ⟨b1,3,none⟩)) z) (wz 5 z H (fun w H=>av bQ z (ak (H.Gt 2 z) z)) (wg 6 z H (sg (.slice p7 n8 c7) z) (wg 7 z H (sg (.slice p9 n10 c9) z) (wd (ab (aj ?_))))))))))
  cases E
  exact⟨.inl z,_,gT H 1 z z (fun w H=>⟨aB z (ad (ad ai)),_,_,z,H.fJ 0 9 10 z z z z z z⟩)⟩
 refine DT (i:=1) (j:=5) (k:=8) (li:=tf 3 10) (lj:=#[true,false,true,false,false,true,false,false,false,false]) (lk:=#[true,false,true,false,false,false,false,false,true,false]) z z z z z z z z z d_ ?_ ?_ ?_
 ·refine(au eS z ((cX.calls (H.arg (H.rd h1)) E1).mono ?_))
  rintro _ w ⟨v10,rfl,K⟩
  have H:=H.app K
  refine⟨_,z,⟨fun _=>H.ag [0,1,2,3,4,5,6,7] z z,?_⟩⟩
  refine DT (i:=3) (j:=5) (k:=8) (li:=tf 4 10) (lj:=#[true,true,true,false,false,true,false,false,false,false]) (lk:=#[true,true,true,false,false,false,false,false,true,false]) z z z z z z z z z d_ ?_ ?_ ?_
  ·refine(au eS z ((cX.calls (H.arg (H.rd h2)) E2).mono ?_))
   rintro _ w ⟨v11,rfl,K⟩
   have H:=H.app K
   refine⟨_,z,⟨fun _=>H.ag [0,1,2,3,4,5,6,7] z z,?_⟩⟩
   have H:St _ _ _ [_,_,_,_,_,_,_,_,_,_]:=H
   obtain⟨p3,n4,c3,rfl⟩:=bX (H.Gt 8 z)
   obtain⟨p4,n5,c4,rfl⟩:=bX (H.Gt 9 z)
   refine wg 4 z (H.ag [0,1,2,3,4,5,6,7] z z) (ff (cs:=[(.slice p3 n4 c3),(.slice p4 n5 c4)]) fq z) ?_
   refine lZ (i:=5) (j:=8) (li:=tf 6 10) (lj:=#[true,true,true,true,true,false,false,false,true,false]) z z z z z z d_ ?_ ?_
   ·refine(cL (e:=(.int .u8)) (l:=[1]) aN H z f_ ⟨z,z,acu⟩ f_ (fun v12 w H=>⟨fun _=>H.ag [0,1,2,3,4,5,6,7] z z,?_⟩))
    have H:St _ _ _ [_,_,_,_,_,_,_,_,_,_,_]:=H
    obtain⟨p5,n6,c5,rfl⟩:=bX (H.Gt 10 z)
    refine wg 6 z (H.ag [0,1,2,3,4,5,6,7] z z) (ff (cs:=[sn,(.slice p5 n6 c5)]) fq z) (wg 7 z (H.ag [0,1,2,3,4,5,6,7] z z) (cf (cs:=[(.slice p3 n4 c3),(.slice p4 n5 c4),sn,(.slice p5 n6 c5)]) jE d_) (wo 8 z (cr kp H (fun b7 w H=>⟨fun _=>H.ag [0,1,2,3,4,5,6,7] z z,?_⟩))))
    exact cut44 _ _ ⟨_,_,_,_,_,_,_,_,_,_,_,aD ⟨z,z,z,z,z,z,acu⟩,H⟩
   refine(cr kp H (fun b7 w H=>⟨fun _=>H.ag [0,1,2,3,4,5,6,7] z z,wo 5 z (cL (e:=(.int .u8)) (l:=[1]) aN H z f_ ⟨z,z,acu⟩ f_ (fun v12 w H=>⟨fun _=>H.ag [0,1,2,3,4,5,6,7] z z,?_⟩))⟩))
   have H:St _ _ _ [_,_,_,_,_,_,_,_,_,_,_,_]:=H
   obtain⟨p5,n6,c5,rfl⟩:=bX (H.Gt 11 z)
   refine wg 6 z (H.ag [0,1,2,3,4,5,6,7] z z) (ff (cs:=[sn,(.slice p5 n6 c5)]) fq z) (wg 7 z (H.ag [0,1,2,3,4,5,6,7] z z) (cf (cs:=[(.slice p3 n4 c3),(.slice p4 n5 c4),sn,(.slice p5 n6 c5)]) jE d_) ?_)
   have H:St (Rs.ah F_).fp w0 _ [.ah F_,.bO v1,.blk b1 #[sn,sn,sn,sn] 395,.blk b2 #[pt F_.p] 111,.blk b3 #[(.slice p1 n1 c1)] 22,.blk b4 #[(.slice p2 n3 c2)] 22,.blk b5 #[ii a3] 3,.obj b6 (.loop o1),.own (.int .u8) 5 (.slice p3 n4 c3) x1,.own (.int .u8) 5 (.slice p4 n5 c4) x2,.own (.int .u8) 5 (.slice p5 n6 c5) ([1]),.blk b7 #[sn,sn,sn,sn] 395]:=H.ag [0,1,2,3,4,5,6,7,8,9,11,10] z z
   exact cut44 _ _ ⟨_,_,_,_,_,_,_,_,_,_,_,aD ⟨z,z,z,z,z,z,acu⟩,H⟩
  ·refine(cL (e:=(.int .u8)) (l:=[1]) aN H z f_ ⟨z,z,acu⟩ f_ (fun v12 w H=>⟨fun _=>H.ag [0,1,2,3,4,5,6,7] z z,?_⟩))
   have H:St _ _ _ [_,_,_,_,_,_,_,_,_,_]:=H
   obtain⟨p5,n6,c5,rfl⟩:=bX (H.Gt 9 z)
   refine wg 6 z (H.ag [0,1,2,3,4,5,6,7] z z) (ff (cs:=[sn,(.slice p5 n6 c5)]) fq z) ?_
   refine lZ (i:=3) (j:=8) (li:=#[true,true,true,true,false,true,true,false,false,false]) (lj:=#[true,true,true,false,false,true,true,false,true,false]) z z z z z z d_ ?_ ?_
   ·refine(au eS z ((cX.calls (H.arg (H.rd h2)) E2).mono ?_))
    rintro _ w ⟨v11,rfl,K⟩
    have H:=H.app K
    refine⟨_,z,⟨fun _=>H.ag [0,1,2,3,4,5,6,7] z z,?_⟩⟩
    have H:St _ _ _ [_,_,_,_,_,_,_,_,_,_,_]:=H
    obtain⟨p3,n4,c3,rfl⟩:=bX (H.Gt 8 z)
    obtain⟨p4,n5,c4,rfl⟩:=bX (H.Gt 10 z)
    refine wg 4 z (H.ag [0,1,2,3,4,5,6,7] z z) (ff (cs:=[(.slice p3 n4 c3),(.slice p4 n5 c4)]) fq z) (wg 7 z (H.ag [0,1,2,3,4,5,6,7] z z) (cf (cs:=[(.slice p3 n4 c3),(.slice p4 n5 c4),sn,(.slice p5 n6 c5)]) jE d_) (wo 8 z (cr kp H (fun b7 w H=>⟨fun _=>H.ag [0,1,2,3,4,5,6,7] z z,?_⟩))))
    have H:St (Rs.ah F_).fp w0 _ [.ah F_,.bO v1,.blk b1 #[sn,sn,sn,sn] 395,.blk b2 #[pt F_.p] 111,.blk b3 #[(.slice p1 n1 c1)] 22,.blk b4 #[(.slice p2 n3 c2)] 22,.blk b5 #[ii a3] 3,.obj b6 (.loop o1),.own (.int .u8) 5 (.slice p3 n4 c3) x1,.own (.int .u8) 5 (.slice p4 n5 c4) x2,.own (.int .u8) 5 (.slice p5 n6 c5) ([1]),.blk b7 #[sn,sn,sn,sn] 395]:=H.ag [0,1,2,3,4,5,6,7,8,10,9,11] z z
    exact cut44 _ _ ⟨_,_,_,_,_,_,_,_,_,_,_,aD ⟨z,z,z,z,z,z,acu⟩,H⟩
   refine(cr kp H (fun b7 w H=>⟨fun _=>H.ag [0,1,2,3,4,5,6,7] z z,wo 3 z (au eS z ((cX.calls (H.arg (H.rd h2)) E2).mono ?_))⟩))
   rintro _ w ⟨v11,rfl,K⟩
   have H:=H.app K
   refine⟨_,z,⟨fun _=>H.ag [0,1,2,3,4,5,6,7] z z,?_⟩⟩
   have H:St _ _ _ [_,_,_,_,_,_,_,_,_,_,_,_]:=H
   obtain⟨p3,n4,c3,rfl⟩:=bX (H.Gt 8 z)
   obtain⟨p4,n5,c4,rfl⟩:=bX (H.Gt 11 z)
   refine wg 4 z (H.ag [0,1,2,3,4,5,6,7] z z) (ff (cs:=[(.slice p3 n4 c3),(.slice p4 n5 c4)]) fq z) (wg 7 z (H.ag [0,1,2,3,4,5,6,7] z z) (cf (cs:=[(.slice p3 n4 c3),(.slice p4 n5 c4),sn,(.slice p5 n6 c5)]) jE d_) ?_)
   have H:St (Rs.ah F_).fp w0 _ [.ah F_,.bO v1,.blk b1 #[sn,sn,sn,sn] 395,.blk b2 #[pt F_.p] 111,.blk b3 #[(.slice p1 n1 c1)] 22,.blk b4 #[(.slice p2 n3 c2)] 22,.blk b5 #[ii a3] 3,.obj b6 (.loop o1),.own (.int .u8) 5 (.slice p3 n4 c3) x1,.own (.int .u8) 5 (.slice p4 n5 c4) x2,.own (.int .u8) 5 (.slice p5 n6 c5) ([1]),.blk b7 #[sn,sn,sn,sn] 395]:=H.ag [0,1,2,3,4,5,6,7,8,11,9,10] z z
   exact cut44 _ _ ⟨_,_,_,_,_,_,_,_,_,_,_,aD ⟨z,z,z,z,z,z,acu⟩,H⟩
  refine(cr kp H (fun b7 w H=>⟨fun _=>H.ag [0,1,2,3,4,5,6,7] z z,?_⟩))
  refine lZ (i:=3) (j:=5) (li:=#[true,true,true,true,false,false,false,false,true,false]) (lj:=#[true,true,true,false,false,true,false,false,true,false]) z z z z z z d_ ?_ ?_
  ·refine(au eS z ((cX.calls (H.arg (H.rd h2)) E2).mono ?_))
   rintro _ w ⟨v11,rfl,K⟩
   have H:=H.app K
   refine⟨_,z,⟨fun _=>H.ag [0,1,2,3,4,5,6,7] z z,?_⟩⟩
   have H:St _ _ _ [_,_,_,_,_,_,_,_,_,_,_]:=H
   obtain⟨p3,n4,c3,rfl⟩:=bX (H.Gt 8 z)
   obtain⟨p4,n5,c4,rfl⟩:=bX (H.Gt 10 z)
   refine wg 4 z (H.ag [0,1,2,3,4,5,6,7] z z) (ff (cs:=[(.slice p3 n4 c3),(.slice p4 n5 c4)]) fq z) (wo 5 z (cL (e:=(.int .u8)) (l:=[1]) aN H z f_ ⟨z,z,acu⟩ f_ (fun v12 w H=>⟨fun _=>H.ag [0,1,2,3,4,5,6,7] z z,?_⟩)))
   have H:St _ _ _ [_,_,_,_,_,_,_,_,_,_,_,_]:=H
   obtain⟨p5,n6,c5,rfl⟩:=bX (H.Gt 11 z)
   refine wg 6 z (H.ag [0,1,2,3,4,5,6,7] z z) (ff (cs:=[sn,(.slice p5 n6 c5)]) fq z) (wg 7 z (H.ag [0,1,2,3,4,5,6,7] z z) (cf (cs:=[(.slice p3 n4 c3),(.slice p4 n5 c4),sn,(.slice p5 n6 c5)]) jE d_) ?_)
   have H:St (Rs.ah F_).fp w0 _ [.ah F_,.bO v1,.blk b1 #[sn,sn,sn,sn] 395,.blk b2 #[pt F_.p] 111,.blk b3 #[(.slice p1 n1 c1)] 22,.blk b4 #[(.slice p2 n3 c2)] 22,.blk b5 #[ii a3] 3,.obj b6 (.loop o1),.own (.int .u8) 5 (.slice p3 n4 c3) x1,.own (.int .u8) 5 (.slice p4 n5 c4) x2,.own (.int .u8) 5 (.slice p5 n6 c5) ([1]),.blk b7 #[sn,sn,sn,sn] 395]:=H.ag [0,1,2,3,4,5,6,7,8,10,11,9] z z
   exact cut44 _ _ ⟨_,_,_,_,_,_,_,_,_,_,_,aD ⟨z,z,z,z,z,z,acu⟩,H⟩
  refine(cL (e:=(.int .u8)) (l:=[1]) aN H z f_ ⟨z,z,acu⟩ f_ (fun v12 w H=>⟨fun _=>H.ag [0,1,2,3,4,5,6,7] z z,?_⟩))
  have H:St _ _ _ [_,_,_,_,_,_,_,_,_,_,_]:=H
  obtain⟨p5,n6,c5,rfl⟩:=bX (H.Gt 10 z)
  refine wg 6 z (H.ag [0,1,2,3,4,5,6,7] z z) (ff (cs:=[sn,(.slice p5 n6 c5)]) fq z) (wo 3 z (au eS z ((cX.calls (H.arg (H.rd h2)) E2).mono ?_)))
  rintro _ w ⟨v11,rfl,K⟩
  have H:=H.app K
  refine⟨_,z,⟨fun _=>H.ag [0,1,2,3,4,5,6,7] z z,?_⟩⟩
  have H:St _ _ _ [_,_,_,_,_,_,_,_,_,_,_,_]:=H
  obtain⟨p3,n4,c3,rfl⟩:=bX (H.Gt 8 z)
  obtain⟨p4,n5,c4,rfl⟩:=bX (H.Gt 11 z)
  refine wg 4 z (H.ag [0,1,2,3,4,5,6,7] z z) (ff (cs:=[(.slice p3 n4 c3),(.slice p4 n5 c4)]) fq z) (wg 7 z (H.ag [0,1,2,3,4,5,6,7] z z) (cf (cs:=[(.slice p3 n4 c3),(.slice p4 n5 c4),sn,(.slice p5 n6 c5)]) jE d_) ?_)
  have H:St (Rs.ah F_).fp w0 _ [.ah F_,.bO v1,.blk b1 #[sn,sn,sn,sn] 395,.blk b2 #[pt F_.p] 111,.blk b3 #[(.slice p1 n1 c1)] 22,.blk b4 #[(.slice p2 n3 c2)] 22,.blk b5 #[ii a3] 3,.obj b6 (.loop o1),.own (.int .u8) 5 (.slice p3 n4 c3) x1,.own (.int .u8) 5 (.slice p4 n5 c4) x2,.own (.int .u8) 5 (.slice p5 n6 c5) ([1]),.blk b7 #[sn,sn,sn,sn] 395]:=H.ag [0,1,2,3,4,5,6,7,8,11,10,9] z z
  exact cut44 _ _ ⟨_,_,_,_,_,_,_,_,_,_,_,aD ⟨z,z,z,z,z,z,acu⟩,H⟩
 ·refine(cL (e:=(.int .u8)) (l:=[1]) aN H z f_ ⟨z,z,acu⟩ f_ (fun v12 w H=>⟨fun _=>H.ag [0,1,2,3,4,5,6,7] z z,?_⟩))
  have H:St _ _ _ [_,_,_,_,_,_,_,_,_]:=H
  obtain⟨p5,n6,c5,rfl⟩:=bX (H.Gt 8 z)
  refine wg 6 z (H.ag [0,1,2,3,4,5,6,7] z z) (ff (cs:=[sn,(.slice p5 n6 c5)]) fq z) ?_
  refine lZ (i:=1) (j:=8) (li:=#[true,true,true,false,false,true,true,false,false,false]) (lj:=#[true,false,true,false,false,true,true,false,true,false]) z z z z z z d_ ?_ ?_
  ·refine(au eS z ((cX.calls (H.arg (H.rd h1)) E1).mono ?_))
   rintro _ w ⟨v10,rfl,K⟩
   have H:=H.app K
   refine⟨_,z,⟨fun _=>H.ag [0,1,2,3,4,5,6,7] z z,?_⟩⟩
   refine lZ (i:=3) (j:=8) (li:=#[true,true,true,true,false,true,true,false,false,false]) (lj:=#[true,true,true,false,false,true,true,false,true,false]) z z z z z z d_ ?_ ?_
   ·refine(au eS z ((cX.calls (H.arg (H.rd h2)) E2).mono ?_))
    rintro _ w ⟨v11,rfl,K⟩
    have H:=H.app K
    refine⟨_,z,⟨fun _=>H.ag [0,1,2,3,4,5,6,7] z z,?_⟩⟩
    have H:St _ _ _ [_,_,_,_,_,_,_,_,_,_,_]:=H
    obtain⟨p3,n4,c3,rfl⟩:=bX (H.Gt 9 z)
    obtain⟨p4,n5,c4,rfl⟩:=bX (H.Gt 10 z)
    refine wg 4 z (H.ag [0,1,2,3,4,5,6,7] z z) (ff (cs:=[(.slice p3 n4 c3),(.slice p4 n5 c4)]) fq z) (wg 7 z (H.ag [0,1,2,3,4,5,6,7] z z) (cf (cs:=[(.slice p3 n4 c3),(.slice p4 n5 c4),sn,(.slice p5 n6 c5)]) jE d_) (wo 8 z (cr kp H (fun b7 w H=>⟨fun _=>H.ag [0,1,2,3,4,5,6,7] z z,?_⟩))))
    have H:St (Rs.ah F_).fp w0 _ [.ah F_,.bO v1,.blk b1 #[sn,sn,sn,sn] 395,.blk b2 #[pt F_.p] 111,.blk b3 #[(.slice p1 n1 c1)] 22,.blk b4 #[(.slice p2 n3 c2)] 22,.blk b5 #[ii a3] 3,.obj b6 (.loop o1),.own (.int .u8) 5 (.slice p3 n4 c3) x1,.own (.int .u8) 5 (.slice p4 n5 c4) x2,.own (.int .u8) 5 (.slice p5 n6 c5) ([1]),.blk b7 #[sn,sn,sn,sn] 395]:=H.ag [0,1,2,3,4,5,6,7,9,10,8,11] z z
    exact cut44 _ _ ⟨_,_,_,_,_,_,_,_,_,_,_,aD ⟨z,z,z,z,z,z,acu⟩,H⟩
   refine(cr kp H (fun b7 w H=>⟨fun _=>H.ag [0,1,2,3,4,5,6,7] z z,wo 3 z (au eS z ((cX.calls (H.arg (H.rd h2)) E2).mono ?_))⟩))
   rintro _ w ⟨v11,rfl,K⟩
   have H:=H.app K
   refine⟨_,z,⟨fun _=>H.ag [0,1,2,3,4,5,6,7] z z,?_⟩⟩
   have H:St _ _ _ [_,_,_,_,_,_,_,_,_,_,_,_]:=H
   obtain⟨p3,n4,c3,rfl⟩:=bX (H.Gt 9 z)
   obtain⟨p4,n5,c4,rfl⟩:=bX (H.Gt 11 z)
   refine wg 4 z (H.ag [0,1,2,3,4,5,6,7] z z) (ff (cs:=[(.slice p3 n4 c3),(.slice p4 n5 c4)]) fq z) (wg 7 z (H.ag [0,1,2,3,4,5,6,7] z z) (cf (cs:=[(.slice p3 n4 c3),(.slice p4 n5 c4),sn,(.slice p5 n6 c5)]) jE d_) ?_)
   have H:St (Rs.ah F_).fp w0 _ [.ah F_,.bO v1,.blk b1 #[sn,sn,sn,sn] 395,.blk b2 #[pt F_.p] 111,.blk b3 #[(.slice p1 n1 c1)] 22,.blk b4 #[(.slice p2 n3 c2)] 22,.blk b5 #[ii a3] 3,.obj b6 (.loop o1),.own (.int .u8) 5 (.slice p3 n4 c3) x1,.own (.int .u8) 5 (.slice p4 n5 c4) x2,.own (.int .u8) 5 (.slice p5 n6 c5) ([1]),.blk b7 #[sn,sn,sn,sn] 395]:=H.ag [0,1,2,3,4,5,6,7,9,11,8,10] z z
   exact cut44 _ _ ⟨_,_,_,_,_,_,_,_,_,_,_,aD ⟨z,z,z,z,z,z,acu⟩,H⟩
  refine(cr kp H (fun b7 w H=>⟨fun _=>H.ag [0,1,2,3,4,5,6,7] z z,wo 1 z (au eS z ((cX.calls (H.arg (H.rd h1)) E1).mono ?_))⟩))
  rintro _ w ⟨v10,rfl,K⟩
  have H:=H.app K
  refine⟨_,z,⟨fun _=>H.ag [0,1,2,3,4,5,6,7] z z,wo 3 z (au eS z ((cX.calls (H.arg (H.rd h2)) E2).mono ?_))⟩⟩
  rintro _ w ⟨v11,rfl,K⟩
  have H:=H.app K
  refine⟨_,z,⟨fun _=>H.ag [0,1,2,3,4,5,6,7] z z,?_⟩⟩
  have H:St _ _ _ [_,_,_,_,_,_,_,_,_,_,_,_]:=H
  obtain⟨p3,n4,c3,rfl⟩:=bX (H.Gt 10 z)
  obtain⟨p4,n5,c4,rfl⟩:=bX (H.Gt 11 z)
  refine wg 4 z (H.ag [0,1,2,3,4,5,6,7] z z) (ff (cs:=[(.slice p3 n4 c3),(.slice p4 n5 c4)]) fq z) (wg 7 z (H.ag [0,1,2,3,4,5,6,7] z z) (cf (cs:=[(.slice p3 n4 c3),(.slice p4 n5 c4),sn,(.slice p5 n6 c5)]) jE d_) ?_)
  have H:St (Rs.ah F_).fp w0 _ [.ah F_,.bO v1,.blk b1 #[sn,sn,sn,sn] 395,.blk b2 #[pt F_.p] 111,.blk b3 #[(.slice p1 n1 c1)] 22,.blk b4 #[(.slice p2 n3 c2)] 22,.blk b5 #[ii a3] 3,.obj b6 (.loop o1),.own (.int .u8) 5 (.slice p3 n4 c3) x1,.own (.int .u8) 5 (.slice p4 n5 c4) x2,.own (.int .u8) 5 (.slice p5 n6 c5) ([1]),.blk b7 #[sn,sn,sn,sn] 395]:=H.ag [0,1,2,3,4,5,6,7,10,11,8,9] z z
  exact cut44 _ _ ⟨_,_,_,_,_,_,_,_,_,_,_,aD ⟨z,z,z,z,z,z,acu⟩,H⟩
 refine(cr kp H (fun b7 w H=>⟨fun _=>H.ag [0,1,2,3,4,5,6,7] z z,?_⟩))
 refine lZ (i:=1) (j:=5) (li:=#[true,true,true,false,false,false,false,false,true,false]) (lj:=#[true,false,true,false,false,true,false,false,true,false]) z z z z z z d_ ?_ ?_
 ·refine(au eS z ((cX.calls (H.arg (H.rd h1)) E1).mono ?_))
  rintro _ w ⟨v10,rfl,K⟩
  have H:=H.app K
  refine⟨_,z,⟨fun _=>H.ag [0,1,2,3,4,5,6,7] z z,?_⟩⟩
  refine lZ (i:=3) (j:=5) (li:=#[true,true,true,true,false,false,false,false,true,false]) (lj:=#[true,true,true,false,false,true,false,false,true,false]) z z z z z z d_ ?_ ?_
  ·refine(au eS z ((cX.calls (H.arg (H.rd h2)) E2).mono ?_))
   rintro _ w ⟨v11,rfl,K⟩
   have H:=H.app K
   refine⟨_,z,⟨fun _=>H.ag [0,1,2,3,4,5,6,7] z z,?_⟩⟩
   have H:St _ _ _ [_,_,_,_,_,_,_,_,_,_,_]:=H
   obtain⟨p3,n4,c3,rfl⟩:=bX (H.Gt 9 z)
   obtain⟨p4,n5,c4,rfl⟩:=bX (H.Gt 10 z)
   refine wg 4 z (H.ag [0,1,2,3,4,5,6,7] z z) (ff (cs:=[(.slice p3 n4 c3),(.slice p4 n5 c4)]) fq z) (wo 5 z (cL (e:=(.int .u8)) (l:=[1]) aN H z f_ ⟨z,z,acu⟩ f_ (fun v12 w H=>⟨fun _=>H.ag [0,1,2,3,4,5,6,7] z z,?_⟩)))
   have H:St _ _ _ [_,_,_,_,_,_,_,_,_,_,_,_]:=H
   obtain⟨p5,n6,c5,rfl⟩:=bX (H.Gt 11 z)
   refine wg 6 z (H.ag [0,1,2,3,4,5,6,7] z z) (ff (cs:=[sn,(.slice p5 n6 c5)]) fq z) (wg 7 z (H.ag [0,1,2,3,4,5,6,7] z z) (cf (cs:=[(.slice p3 n4 c3),(.slice p4 n5 c4),sn,(.slice p5 n6 c5)]) jE d_) ?_)
   have H:St (Rs.ah F_).fp w0 _ [.ah F_,.bO v1,.blk b1 #[sn,sn,sn,sn] 395,.blk b2 #[pt F_.p] 111,.blk b3 #[(.slice p1 n1 c1)] 22,.blk b4 #[(.slice p2 n3 c2)] 22,.blk b5 #[ii a3] 3,.obj b6 (.loop o1),.own (.int .u8) 5 (.slice p3 n4 c3) x1,.own (.int .u8) 5 (.slice p4 n5 c4) x2,.own (.int .u8) 5 (.slice p5 n6 c5) ([1]),.blk b7 #[sn,sn,sn,sn] 395]:=H.ag [0,1,2,3,4,5,6,7,9,10,11,8] z z
   exact cut44 _ _ ⟨_,_,_,_,_,_,_,_,_,_,_,aD ⟨z,z,z,z,z,z,acu⟩,H⟩
  refine(cL (e:=(.int .u8)) (l:=[1]) aN H z f_ ⟨z,z,acu⟩ f_ (fun v12 w H=>⟨fun _=>H.ag [0,1,2,3,4,5,6,7] z z,?_⟩))
  have H:St _ _ _ [_,_,_,_,_,_,_,_,_,_,_]:=H
  obtain⟨p5,n6,c5,rfl⟩:=bX (H.Gt 10 z)
  refine wg 6 z (H.ag [0,1,2,3,4,5,6,7] z z) (ff (cs:=[sn,(.slice p5 n6 c5)]) fq z) (wo 3 z (au eS z ((cX.calls (H.arg (H.rd h2)) E2).mono ?_)))
  rintro _ w ⟨v11,rfl,K⟩
  have H:=H.app K
  refine⟨_,z,⟨fun _=>H.ag [0,1,2,3,4,5,6,7] z z,?_⟩⟩
  have H:St _ _ _ [_,_,_,_,_,_,_,_,_,_,_,_]:=H
  obtain⟨p3,n4,c3,rfl⟩:=bX (H.Gt 9 z)
  obtain⟨p4,n5,c4,rfl⟩:=bX (H.Gt 11 z)
  refine wg 4 z (H.ag [0,1,2,3,4,5,6,7] z z) (ff (cs:=[(.slice p3 n4 c3),(.slice p4 n5 c4)]) fq z) (wg 7 z (H.ag [0,1,2,3,4,5,6,7] z z) (cf (cs:=[(.slice p3 n4 c3),(.slice p4 n5 c4),sn,(.slice p5 n6 c5)]) jE d_) ?_)
  have H:St (Rs.ah F_).fp w0 _ [.ah F_,.bO v1,.blk b1 #[sn,sn,sn,sn] 395,.blk b2 #[pt F_.p] 111,.blk b3 #[(.slice p1 n1 c1)] 22,.blk b4 #[(.slice p2 n3 c2)] 22,.blk b5 #[ii a3] 3,.obj b6 (.loop o1),.own (.int .u8) 5 (.slice p3 n4 c3) x1,.own (.int .u8) 5 (.slice p4 n5 c4) x2,.own (.int .u8) 5 (.slice p5 n6 c5) ([1]),.blk b7 #[sn,sn,sn,sn] 395]:=H.ag [0,1,2,3,4,5,6,7,9,11,10,8] z z
  exact cut44 _ _ ⟨_,_,_,_,_,_,_,_,_,_,_,aD ⟨z,z,z,z,z,z,acu⟩,H⟩
 refine(cL (e:=(.int .u8)) (l:=[1]) aN H z f_ ⟨z,z,acu⟩ f_ (fun v12 w H=>⟨fun _=>H.ag [0,1,2,3,4,5,6,7] z z,?_⟩))
 have H:St _ _ _ [_,_,_,_,_,_,_,_,_,_]:=H
 obtain⟨p5,n6,c5,rfl⟩:=bX (H.Gt 9 z)
 refine wg 6 z (H.ag [0,1,2,3,4,5,6,7] z z) (ff (cs:=[sn,(.slice p5 n6 c5)]) fq z) (wo 1 z (au eS z ((cX.calls (H.arg (H.rd h1)) E1).mono ?_)))
 rintro _ w ⟨v10,rfl,K⟩
 have H:=H.app K
 refine⟨_,z,⟨fun _=>H.ag [0,1,2,3,4,5,6,7] z z,wo 3 z (au eS z ((cX.calls (H.arg (H.rd h2)) E2).mono ?_))⟩⟩
 rintro _ w ⟨v11,rfl,K⟩
 have H:=H.app K
 refine⟨_,z,⟨fun _=>H.ag [0,1,2,3,4,5,6,7] z z,?_⟩⟩
 have H:St _ _ _ [_,_,_,_,_,_,_,_,_,_,_,_]:=H
 obtain⟨p3,n4,c3,rfl⟩:=bX (H.Gt 10 z)
 obtain⟨p4,n5,c4,rfl⟩:=bX (H.Gt 11 z)
 refine wg 4 z (H.ag [0,1,2,3,4,5,6,7] z z) (ff (cs:=[(.slice p3 n4 c3),(.slice p4 n5 c4)]) fq z) (wg 7 z (H.ag [0,1,2,3,4,5,6,7] z z) (cf (cs:=[(.slice p3 n4 c3),(.slice p4 n5 c4),sn,(.slice p5 n6 c5)]) jE d_) ?_)
 have H:St (Rs.ah F_).fp w0 _ [.ah F_,.bO v1,.blk b1 #[sn,sn,sn,sn] 395,.blk b2 #[pt F_.p] 111,.blk b3 #[(.slice p1 n1 c1)] 22,.blk b4 #[(.slice p2 n3 c2)] 22,.blk b5 #[ii a3] 3,.obj b6 (.loop o1),.own (.int .u8) 5 (.slice p3 n4 c3) x1,.own (.int .u8) 5 (.slice p4 n5 c4) x2,.own (.int .u8) 5 (.slice p5 n6 c5) ([1]),.blk b7 #[sn,sn,sn,sn] 395]:=H.ag [0,1,2,3,4,5,6,7,10,11,9,8] z z
 exact cut44 _ _ ⟨_,_,_,_,_,_,_,_,_,_,_,aD ⟨z,z,z,z,z,z,acu⟩,H⟩
def nH.f(k:Nat)(a1:List Int)(a2:Int):Option (List Int×List Int×Bool):=bif decide (a2<0)then(some (([]:List Int),([]:List Int),false))else(bif decide ((a1.length:Int)<a2)then(some (([]:List Int),([]:List Int),false))else(an (decide ((0:Int)≤(a1.length:Int)∧(a1.length:Int)≤(a1.length:Int)∧(a1.length:Int)≤140737488355328)) (an (decide (((List.replicate (a1.length:Int).toNat (0:Int)).length+([1]).length)*1≤140737488355328)) ((jH.f k (List.replicate (a1.length:Int).toNat (0:Int)++([1])) a1 (I W (Int.tdiv (I W (I W ((a1.length:Int)+a2)+1)) 2))).bind fun x1=>(jV.f x1.2 0).bind fun x2=>(fN.f x2).bind fun x3=>bif !x3.2 then(some (([]:List Int),([]:List Int),false))else((ky.f k x3.1 x1.2).bind fun x4=>(ky.f k x3.1 x1.1).bind fun x5=>some (x4,x5,true))))))
theorem nH.calls{a1:List Int}{a2:Int}{r:List Int×List Int×Bool}(hf:(Rs.ah F_).inv w0)(h1:Zg F_ w0 v1_ a1)(E:nH.f k a1 a2=some r):
 Calls aa 220 #[pt F_.p,v1_,ii a2] w0 fun e w'=>∃(u0 u1:Value),e= .returned (.tuple #[u0,u1,.bool r.2.2])∧St (Rs.ah F_).fp w0 w' [.ah F_,Y9 u0 r.1,Y9 u1 r.2.1]:=by
 have H:=St.start hf
 unfold nH.f at E
 refine Zb func220 ?_
 refine A_ ?_
 rcases bR (decide (a2<0))with c3|c3
 ·have E:=iT c3 E
  refine A_ ?_
  have H:=H.bB (.int .u8) 5
  have H:=H.bB (.int .u8) 5
  cases E
  exact(aL ⟨.inl z,_,tk0 z ⟨aB z (ad (ad (ad ai))),_,_,z,H.fJ 0 1 2 z z z z z z⟩⟩)
 have E:=iF c3 E
 refine A_ ?_
 refine aE E z ?_ ?_<;>intro c4 E<;>refine A_ ?_
 ·have H:=H.bB (.int .u8) 5
  have H:=H.bB (.int .u8) 5
  cases E
  exact(aL ⟨.inl z,_,tk0 z ⟨aB z (ad (ad (ad ai))),_,_,z,H.fJ 0 1 2 z z z z z z⟩⟩)
 obtain⟨⟨g6,g7,g8⟩,E⟩:=ar E
 refine ye (ee (e:=(.int .u8)) (z0:=0) aN z H z z g6 g7 a_ a_ (fun v5 w H=>ye (cL (e:=(.int .u8)) (l:=[1]) aN H z f_ ⟨z,z,acu⟩ f_ (fun v9 w H=>?_))))
 obtain⟨g1,E⟩:=ar E
 refine ye (dZ aN H 1 z (ao (H.Gt 2 z)) z z a_ u_ (fun v1 w H=>A_ ?_))
 obtain⟨x1,E1,E⟩:=ay E
 refine ye (au Hs z ((jH.calls (H.Gt 0 z) (H.cb 1 0 z z z (ao (H.Gt 1 z))) (H.cj 0 z (H.rd h1)) E1).mono ?_))
 rintro _ w ⟨v2,v3,rfl,K⟩
 have H:=H.aV 0 z K
 refine⟨_,z,A_ ?_⟩
 refine ye (E9 vo H E (fun _=>jV.calls (H.own 4 z (ao (H.Gt 4 z)))) (fun x2 E w H=>?_))
 have H:St _ _ _ [_,_,_,_,_]:=H
 refine ye (YL qX H 0 E z (fun _=>fN.calls (H.Gt 0 z)) (fun x3 E w H=>A_ ?_))
 refine aE E z ?_ ?_<;>intro c1 E<;>refine A_ ?_
 ·have H:=H.bB (.int .u8) 5
  have H:=H.bB (.int .u8) 5
  cases E
  exact(aL ⟨.inl z,_,tk0 z ⟨aB z (ad (ad (ad ai))),_,_,z,H.fJ 0 5 6 z z z z z z⟩⟩)
 refine ye (YN zu H 0 E z (fun _=>ky.calls (H.Gt 0 z) (H.cb 4 0 z z z (ao (H.Gt 4 z)))) (fun x4 E v4 w H=>A_ ?_))
 refine ye (YN zu H 0 E z (fun _=>ky.calls (H.Gt 0 z) (H.cb 3 0 z z z (ao (H.Gt 3 z)))) (fun x5 E v6 w H=>A_ ?_))
 cases E
 exact⟨.inl z,_,tk0 z ⟨aB z (ad (ad (ad ai))),_,_,z,H.fJ 0 5 6 z z z z z z⟩⟩
def oJ.f(k:Nat)(a0:(Int×Int×Int)×List Int×List Int):Option (List Int×Bool):=(kG.f k ((a0.1.1,a0.1.2.1,a0.1.2.2),a0.2.1,a0.2.2)).bind fun x2=>(nH.f k x2.2.2 (a0.2.2.length:Int)).bind fun x7=>bif !x7.2.2 then(some (([]:List Int),false))else((cZ.f k x7.1 x2.2.1).bind fun x1=>(kH.f k ((a0.1.1,a0.1.2.1,a0.1.2.2),a0.2.1,a0.2.2) x7.2.1 x1).bind fun x3=>some (x3.1,x3.2))
theorem oJ.calls{a0:(Int×Int×Int)×List Int×List Int}{r:List Int×Bool}(hf:(Rs.ah F_).inv w0)(h0_4:Zg F_ w0 v0_4_ a0.2.1)(h0_5:Rd (.of (.int .i64)) w0 (Ol (Rs.ah F_).fp w0) v0_5_ a0.2.2)(E:oJ.f k a0=some r):
 Calls aa 170 #[.agg #[pt F_.p,ii a0.1.1,ii a0.1.2.1,ii a0.1.2.2,v0_4_,v0_5_]] w0 fun e w'=>∃(u0:Value),e= .returned (.tuple #[u0,.bool r.2])∧St (Rs.ah F_).fp w0 w' [.ah F_,Y9 u0 r.1]:=by
 have H:=St.start hf
 unfold oJ.f at E
 refine Zb func170 ?_
 refine rg (ye (bc (cs:=#[pt F_.p,ii a0.1.1,ii a0.1.2.1,ii a0.1.2.2,v0_4_,v0_5_]) H z (fun b1 w H=>A_ ?_)))
 refine vr (bp (l:=[pt F_.p,ii a0.1.1,ii a0.1.2.1,ii a0.1.2.2,v0_4_,v0_5_]) jC (H.Gt 1 z) z z z) ?_
 obtain⟨x2,E3,E⟩:=ay E
 refine ye (au zn z ((kG.calls (H.Gt 0 z) (H.cj 0 z (H.rd h0_4)) (H.cj 0 z (H.rd h0_5)) E3).mono ?_))
 rintro _ w ⟨v4,v5,v6,rfl,K⟩
 have H:=H.aV 0 z K
 refine⟨_,z,A_ ?_⟩
 obtain⟨x7,E8,E⟩:=ay E
 refine ye (au Hc z ((nH.calls (H.Gt 0 z) (H.cb 4 0 z z z (ao (H.Gt 4 z))) E8).mono ?_))
 rintro _ w ⟨v9,v1,rfl,K⟩
 have H:=H.aV 0 z K
 refine⟨_,z,A_ ?_⟩
 refine aE E z ?_ ?_<;>intro c1 E
 ·refine A_ ?_
  have H:=H.bB (.int .u8) 5
  cases E
  exact(aL ⟨.inl z,_,tk0 z ⟨aB z (ad (ad ai)),_,z,H.bN 0 7 z z z⟩⟩)
 refine aA (ab (ae (cd (ds:=[]) bZ H z z ?_)))
 have H:=H.drew
 refine wg 0 z H (az qY z) (wz 1 z H (fun w H=>bp (l:=[pt F_.p,ii a0.1.1,ii a0.1.2.1,ii a0.1.2.2,v0_4_,v0_5_]) jC (H.Gt 1 z) z z z) (B_ [2,3,4,5,6,7] H ?_))
 refine wo 8 z (YN qV H 0 E z (fun _=>cZ.calls (H.Gt 0 z) (H.cb 5 0 z z z (ao (H.Gt 5 z))) (H.cb 3 0 z z z (ao (H.Gt 3 z)))) (fun x1 E v2 w H=>⟨fun _=>H.Y8 [0,1,2,3,4,5,6],?_⟩))
 refine wo 9 z (YN zo H 0 E z (fun _=>kH.calls (H.Gt 0 z) (H.cj 0 z (H.rd h0_4)) (H.cj 0 z (H.rd h0_5)) (H.cb 6 0 z z z (ao (H.Gt 6 z))) (H.cb 7 0 z z z (ao (H.Gt 7 z)))) (fun x3 E v3 w H=>⟨fun _=>H.Y8 [0,1,2,3,4,5,6],?_⟩))
 have H:St _ _ _ [_,_,_,_,_,_,_,_,_]:=H
 refine B_ [10,11,12,13] (H.Y8 [0,1,2,3,4,5,6]) ?_
 cases E
 exact⟨.inl z,_,tk0 z ⟨aB z (ad (ad ai)),_,z,H.bN 0 8 z z z⟩⟩
def dn.j0(l1r:(Int×Int×Int)→List (Int)→List Int→List (Int)→Int→Option (List Int×List Int))(k:Nat)(a1:Int×Int×Int)(l1:List Int):Option (List Int×List Int):=(gz.f k l1).bind fun x1=>(fY.f k x1).bind fun x2=>an (decide ((0:Int)≤a1.1∧a1.1≤a1.1∧a1.1≤140737488355328)) (l1r a1 l1 x2 (List.replicate a1.1.toNat (0:Int)) 0)
mutual
def dn.l0:Nat→(Int×Int×Int)→List (Int)→Int→Option (List Int×List Int)
 |0,_,_,_=>none
 |k+1,a1,l1,x1=>bif decide (x1<((List.replicate a1.1.toNat (0:Int)).length:Int))then((kj.f x1).bind fun x2=>an (decide ((0:Int)≤x1∧x1<(l1.length:Int))) (dn.l0 k a1 (l1.set x1.toNat x2) (I W (x1+1))))else(dn.j0 (dn.l1 k) k a1 l1)
def dn.l1:Nat→(Int×Int×Int)→List (Int)→List Int→List (Int)→Int→Option (List Int×List Int)
 |0,_,_,_,_,_=>none
 |k+1,a1,l2,x3,l3,x4=>bif decide (x4<(l2.length:Int))then(an (decide ((0:Int)≤x4∧x4<(l2.length:Int))) ((jK.f (at_ 0 l2 x4) a1.2.2).bind fun x5=>(fK.f k x3 (at_ 0 l2 x4)).bind fun x6=>(gp.f x5 x6).bind fun x7=>(fN.f x7).bind fun x8=>an (decide ((0:Int)≤x4∧x4<(l3.length:Int))) (dn.l1 k a1 l2 x3 (l3.set x4.toNat x8.1) (I W (x4+1)))))else(some (l2,l3))
end
def dn.f(k:Nat)(a1:Int×Int×Int):Option (List Int×List Int):=(dh.f (a1.1,a1.2.1,a1.2.2)).bind fun x5=>bif !decide (x5=0)then(some (([]:List Int),([]:List Int)))else(an (decide ((0:Int)≤a1.1∧a1.1≤a1.1∧a1.1≤140737488355328)) (dn.l0 k a1 (List.replicate a1.1.toNat (0:Int)) 0))
theorem dn.calls{a1:Int×Int×Int}{r:List Int×List Int}(hf:(Rs.ah F_).inv w0)(E:dn.f k a1=some r):
 Calls aa 221 #[pt F_.p,.agg #[ii a1.1,ii a1.2.1,ii a1.2.2]] w0 fun e w'=>∃(u0 u1:Value),e= .returned (.tuple #[u0,u1])∧St (Rs.ah F_).fp w0 w' [.ah F_,Y9 u0 r.1,Y9 u1 r.2]:=by
 have H:=St.start hf
 unfold dn.f at E
 refine Zb func221 ?_
 refine rg (ye (bc (cs:=#[ii a1.1,ii a1.2.1,ii a1.2.2]) H z (fun b1 w H=>A_ ?_)))
 refine oo z z (bp (l:=[ii a1.1,ii a1.2.1,ii a1.2.2]) cv (H.Gt 1 z) z z z) ?_
 refine dP z z z (E9 jF H E (fun _=>dh.calls) (fun x5 E w H=>A_ ?_))
 refine aE E z ?_ ?_<;>intro c7 E<;>refine A_ ?_
 ·have H:=H.bB (.int .u8) 5
  have H:=H.bB (.int .u8) 5
  cases E
  exact(aL ⟨.inl z,_,tk0 z ⟨aB z (ad (ad ai)),_,_,z,H.fJ 0 2 3 z z z z z z⟩⟩)
 obtain⟨⟨g9,g1,g2⟩,E⟩:=ar E
 refine ye (ee (e:=(.int .u8)) (z0:=0) aN z H z z g9 g1 a_ a_ (fun v8 w H=>J_ ?_))
 refine cA (fun t w=>∃(k1:Nat)(l1:List Int)(t1:Fr),k1≤k∧dn.j0 (dn.l1 k1) k1 a1 l1=some r∧t=aU t1 [(0,pt F_.p),(3,pt b1),(4,sn),(5,sn),(6,v8),Zc]∧St (Rs.ah F_).fp w0 w [.ah F_,.blk b1 #[ii a1.1,ii a1.2.1,ii a1.2.2] 24,Y9 v8 l1]) ?_ ?_
 ·refine A_ ?_
  refine bx (fun kk t w=>∃(l2:List Int)(x1:Int)(t2:Fr),kk≤k∧dn.l0 kk a1 l2 x1=some r∧t=aU t2 [(0,pt F_.p),(3,pt b1),(4,sn),(5,sn),(6,v8),(23,ii ((List.replicate a1.1.toNat (0:Int)).length:Int)),(24,ii x1),Zc]∧St (Rs.ah F_).fp w0 w [.ah F_,.blk b1 #[ii a1.1,ii a1.2.1,ii a1.2.2] 24,Y9 v8 l2]) k Ze ?_
  rintro kk t w ⟨l2,x1,t2,hk1,E,rfl,H⟩
  obtain⟨k2,rfl⟩:=Zd kk
  rw[dn.l0]at E
  refine A_ ?_
  refine aE E z ?_ ?_<;>intro c1 E<;>refine A_ ?_
  ·refine ye (YL vh H 0 E z (fun _=>kj.calls (H.Gt 0 z)) (fun x2 E w H=>?_))
   obtain⟨⟨g3,g4⟩,E⟩:=ar E
   refine A_ ?_
   refine s_ (dc dB H 2 z g3 g4 z z (fun w H=>A_ ?_))
   exact⟨k2,bL _,_,_,_,bK hk1,E,Za,H⟩
  exact⟨k2,_,_,a_,E,Za,H⟩
 rintro t w ⟨k1,l1,t1,hk2,E,rfl,H⟩
 unfold dn.j0 at E
 refine A_ ?_
 refine ye (YN zm H 0 E z (fun _=>gz.calls (H.Gt 0 z) (H.cb 2 0 z z z (ao (H.Gt 2 z)))) (fun x3 E v1 w H=>?_))
 refine ye (YM zv H E (fun _=>fY.calls (H.own 3 z (ao (H.Gt 3 z)))) (fun x4 E v2 w H=>A_ ?_))
 obtain⟨⟨g5,g6,g7⟩,E⟩:=ar E
 refine ye (ee (e:=(.int .u8)) (z0:=0) aN z H z z g5 g6 a_ a_ (fun v3 w H=>A_ ?_))
 refine bx (fun kk t w=>∃(l3:List Int)(x6:Int)(t3:Fr),kk≤k1∧dn.l1 kk a1 l1 x4 l3 x6=some r∧t=aU t3 [(0,pt F_.p),(3,pt b1),(4,sn),(5,sn),(6,v8),(8,v2),(9,v3),(41,v8),(42,ii (l1.length:Int)),(43,ii x6),Zc]∧St (Rs.ah F_).fp w0 w [.ah F_,.blk b1 #[ii a1.1,ii a1.2.1,ii a1.2.2] 24,Y9 v8 l1,Y9 v1 x3,Y9 v2 x4,Y9 v3 l3]) k1 Ze ?_
 rintro kk t w ⟨l3,x6,t3,hk3,E,rfl,H⟩
 obtain⟨k3,rfl⟩:=Zd kk
 rw[dn.l1]at E
 refine A_ ?_
 refine aE E z ?_ ?_<;>intro c2 E<;>refine A_ ?_
 ·obtain⟨⟨g8,g12⟩,E⟩:=ar E
  refine A_ ?_
  refine ye (YL vn H 0 E z (fun _=>jK.calls (H.Gt 0 z)) (fun x7 E w H=>A_ ?_))
  refine ye (YL vg H 0 E z (fun _=>fK.calls (H.Gt 0 z) (H.cb 4 0 z z z (ao (H.Gt 4 z)))) (fun x8 E w H=>?_))
  refine ye (YL pg H 0 E z (fun _=>gp.calls (H.Gt 0 z)) (fun x9 E w H=>?_))
  refine ye (YL qX H 0 E z (fun _=>fN.calls (H.Gt 0 z)) (fun x10 E w H=>A_ ?_))
  obtain⟨⟨g13,g14⟩,E⟩:=ar E
  refine A_ ?_
  refine s_ (dc dB H 5 z g13 g14 z z (fun w H=>A_ ?_))
  have H:St _ _ _ [_,_,_,_,_,_]:=H
  refine A_ ?_
  exact⟨k3,bL _,_,_,_,bK hk3,E,Za,H⟩
 cases E
 exact⟨.inl z,_,tk0 z ⟨aB z (ad (ad ai)),_,_,z,H.fJ 0 2 5 z z z z z z⟩⟩
def ib.j1(x1 x2:Int):Option (Int):=bif decide (256≤x1)then(an (decide ((0:Int)≤u8.wrap (Int.fdiv x1 (2^min (8:Int).toNat 64))∧u8.wrap (Int.fdiv x1 (2^min (8:Int).toNat 64))<(pz.size:Int))) (some (I W (I W (x2+8)+I W (sat pz (u8.wrap (Int.fdiv x1 (2^min (8:Int).toNat 64))))))))else(an (decide ((0:Int)≤u8.wrap x1∧u8.wrap x1<(pz.size:Int))) (some (I W (x2+I W (sat pz (u8.wrap x1))))))
def ib.j0(x4 x5:Int):Option (Int):=bif decide (65536≤x4)then(ib.j1 (Int.fdiv x4 (2^min (16:Int).toNat 64)) (I W (x5+16)))else(ib.j1 x4 x5)
def ib.f(a0:Int):Option (Int):=bif decide (4294967296≤a0)then(ib.j0 (Int.fdiv a0 (2^min (32:Int).toNat 64)) 32)else(ib.j0 a0 0)
theorem ib.calls{a0 r:Int}(E:ib.f a0=some r):
 Calls aa 136 #[.int .u64 a0] w0 fun e w'=>e= .returned (ii r)∧St no w0 w' []:=by
 have H:=St.nil no w0
 unfold ib.f at E
 refine Zb func136 ?_
 obtain⟨k,_⟩:∃k:Nat,k=0:=⟨0,rfl⟩
 refine J_ ?_
 refine cA (fun t w=>∃(k7:Nat)(x4 x5:Int)(t6:Fr),k7≤k∧ib.j0 x4 x5=some r∧t=aU t6 [(0,.int .u64 x4),(2,ii x5),Zc]∧St no w0 w []) ?_ ?_
 ·refine A_ ?_
  refine aE E z ?_ ?_<;>intro c9 E
  ·refine A_ ?_
   exact⟨k,_,_,_,aI _,E,Za,H⟩
  refine aA ?_
  exact⟨k,_,_,_,aI _,E,Za,H⟩
 rintro t w ⟨k7,x4,x5,t6,hk8,E,rfl,H⟩
 unfold ib.j0 at E
 refine cA (fun t w=>∃(k16:Nat)(x1 x2:Int)(t1:Fr),k16≤k7∧ib.j1 x1 x2=some r∧t=aU t1 [(0,.int .u64 x1),(2,ii x2),Zc]∧St no w0 w []) ?_ ?_
 ·refine A_ ?_
  refine aE E z ?_ ?_<;>intro c1 E
  ·refine A_ ?_
   exact⟨k7,_,_,_,aI _,E,Za,H⟩
  refine aA ?_
  exact⟨k7,_,_,_,aI _,E,Za,H⟩
 rintro t w ⟨k16,x1,x2,t1,hk1,E,rfl,H⟩
 unfold ib.j1 at E
 refine A_ ?_
 refine aE E z ?_ ?_<;>intro c2 E<;>refine A_ ?_
 ·obtain⟨⟨g1,g2⟩,E⟩:=ar E
  refine vr (mY underlying9 z z g1 g2) (A_ ?_)
  cases E
  exact⟨.inl z,_,tk0 z ⟨aB z (ad ai),z,H.bs⟩⟩
 obtain⟨⟨g3,g4⟩,E⟩:=ar E
 refine vr (mY underlying9 z z g3 g4) (A_ ?_)
 cases E
 exact⟨.inl z,_,tk0 z ⟨aB z (ad ai),z,H.bs⟩⟩
def dx.f(a0:Int):Option (Int):=(ib.f a0).bind fun x1=>some x1
theorem dx.calls{a0 r:Int}(E:dx.f a0=some r):
 Calls aa 239 #[.int .u64 a0] w0 fun e w'=>e= .returned (ii r)∧St no w0 w' []:=by
 have H:=St.nil no w0
 unfold dx.f at E
 refine Zb func239 ?_
 refine A_ ?_
 refine ye (E9 GL H E (fun _=>ib.calls) (fun x1 E w H=>A_ ?_))
 cases E
 exact⟨.inl z,_,tk0 z ⟨aB z (ad ai),z,H.bs⟩⟩
def nB.f(a0:Int):Option (Bool):=some (!decide (a0=a0))
theorem nB.calls{a0:Int}{r:Bool}(E:nB.f a0=some r):
 Calls aa 377 #[iu a0] w0 fun e w'=>e= .returned (.bool r)∧St no w0 w' []:=by
 have H:=St.nil no w0
 unfold nB.f at E
 refine Zb func377 ?_
 refine A_ ?_
 cases E
 exact⟨.inl z,_,tk0 z ⟨aB z (ad ai),z,H.bs⟩⟩
def eI.f(a0 a1:Int):Option (Bool):=(nB.f a0).bind fun x1=>bif x1 then((nB.f a1).bind fun x4=>bif !x4 then(some true)else(some (decide (a0<a1))))else(some (decide (a0<a1)))
theorem eI.calls{a0 a1:Int}{r:Bool}(E:eI.f a0 a1=some r):
 Calls aa 367 #[iu a0,iu a1] w0 fun e w'=>e= .returned (.bool r)∧St no w0 w' []:=by
 have H:=St.nil no w0
 unfold eI.f at E
 refine Zb func367 ?_
 refine A_ ?_
 refine ye (E9 zy H E (fun _=>nB.calls) (fun x1 E w H=>A_ ?_))
 rcases bR (x1)with c3|c3
 ·have E:=iT c3 E
  refine A_ ?_
  refine dP z c3 z (E9 zy H E (fun _=>nB.calls) (fun x4 E w H=>A_ ?_))
  rcases bR (!x4)with c6|c6
  ·have E:=iT c6 E
   refine A_ ?_
   cases E
   exact⟨.inl z,_,tk0 z ⟨aB z (ad ai),z,H.bs⟩⟩
  have E:=iF c6 E
  refine A_ ?_
  cases E
  exact⟨.inl z,_,tk0 z ⟨aB z (ad ai),z,H.bs⟩⟩
 have E:=iF c3 E
 refine A_ ?_
 cases E
 exact⟨.inl z,_,tk0 z ⟨aB z (ad ai),z,H.bs⟩⟩
end Go.Proofs.YtmhkpafkadijgaaGreatDoor.Gw
