/- A part of the proof of Rows.PlayDecodesCardSaid; the conditions are that card's own. -/
import Derived.Test.YtmhkpafkadijgaaGreatDoorQ28
set_option linter.all false
set_option maxRecDepth 100000
set_option maxHeartbeats 4000000
namespace Go.Proofs.YtmhkpafkadijgaaGreatDoor.Gw
open Go.IntKind renaming wrap→I,i64→W
open Go Go.RowKit
variable[de]
open Go.IntKind (i8 i16 i32 i64 u8 u16 u32 u64)
open Tryz hiding prog
open Tryz renaming prog → aa
variable{w0:World}{k:Nat}{v0_ v0_2_ v1_ v2_:Value}
def ax.j0(l1r:(Int×Int×List Int)→List (List Int)→List (Int)→Int→Option ((Int×Int×List Int)×List Int))(k:Nat)(a0:Int×Int×List Int)(l1:List (List Int))(l2 l3:List Int):Option ((Int×Int×List Int)×List Int):=l1r a0 l1 ([]:List Int) 0
def ax.j1(l1r:(Int×Int×List Int)→List (List Int)→List (Int)→Int→Option ((Int×Int×List Int)×List Int))(l3r:(Int×Int×List Int)→List (Int)→Int→List Int→List (List Int)→Int→Option ((Int×Int×List Int)×List Int))(k:Nat)(a0:Int×Int×List Int)(l1:List (List Int))(l2:List Int)(x1 x2:Int):Option ((Int×Int×List Int)×List Int):=bif decide (x2<0)then(l1r a0 l1 l2 (I W (x1+1)))else(an (decide ((0:Int)≤x2∧x2<(l1.length:Int))) (an (decide ((0:Int)≤x1∧x1<((at_ [] l1 x2).length:Int))) (an (decide ((0:Int)≤x2∧x2<(l1.length:Int))) ((oz.f k 1 (at_ 0 (at_ [] l1 x2) x1)).bind fun x3=>(R3.f k x3 (at_ [] l1 x2)).bind fun x4=>an (decide ((0:Int)≤(l2.length:Int)∧(l2.length:Int)<(l1.length:Int))) (an (decide ((0:Int)≤x2∧x2<(l1.length:Int))) (an (decide ((0:Int)≤(l2.length:Int)∧(l2.length:Int)<((l1.set x2.toNat (at_ [] l1 (l2.length:Int))).length:Int))) (l3r a0 l2 x1 x4 ((l1.set x2.toNat (at_ [] l1 (l2.length:Int))).set (l2.length:Int).toNat x4) 0)))))))
mutual
def ax.l0:Nat→(Int×Int×List Int)→List (List Int)→List (Int)→List (Int)→Int→Option ((Int×Int×List Int)×List Int)
 |0,_,_,_,_,_=>none
 |k+1,a0,l1,l2,l3,x1=>bif decide (x1<a0.1)then(an (decide ((0:Int)≤I W (x1*a0.2.1)∧I W (x1*a0.2.1)≤I W (I W (x1+1)*a0.2.1)∧I W (I W (x1+1)*a0.2.1)≤(l3.length:Int))) (an (decide ((l1.length+1)*24≤140737488355328)) (ax.l0 k a0 (l1++[(l3.take ((I W (I W (x1+1)*a0.2.1)).toNat)).drop ((I W (x1*a0.2.1)).toNat)]) l2 l3 (I W (x1+1)))))else(ax.j0 (ax.l1 k) k a0 l1 l2 l3)
def ax.l1:Nat→(Int×Int×List Int)→List (List Int)→List (Int)→Int→Option ((Int×Int×List Int)×List Int)
 |0,_,_,_,_=>none
 |k+1,a0,l4,l5,x2=>bif decide (x2<a0.2.1)then(ax.l2 k a0 l4 l5 x2 (-1) (I W ((l4.length:Int)-1)))else(ax.l4 k a0 l4 l5 ([]:List Int) 0)
def ax.l2:Nat→(Int×Int×List Int)→List (List Int)→List (Int)→Int→Int→Int→Option ((Int×Int×List Int)×List Int)
 |0,_,_,_,_,_,_=>none
 |k+1,a0,l4,l5,x2,x3,x4=>bif decide ((l5.length:Int)≤x4)then(an (decide ((0:Int)≤x4∧x4<(l4.length:Int))) (an (decide ((0:Int)≤x2∧x2<((at_ [] l4 x4).length:Int))) (bif !decide (at_ 0 (at_ [] l4 x4) x2=0)then(ax.l2 k a0 l4 l5 x2 x4 (I W (x4-1)))else(ax.l2 k a0 l4 l5 x2 x3 (I W (x4-1))))))else(ax.j1 (ax.l1 k) (ax.l3 k) k a0 l4 l5 x2 x3)
def ax.l3:Nat→(Int×Int×List Int)→List (Int)→Int→List Int→List (List Int)→Int→Option ((Int×Int×List Int)×List Int)
 |0,_,_,_,_,_,_=>none
 |k+1,a0,l5,x2,x5,l6,x6=>bif decide (x6<(l6.length:Int))then(bif !decide (x6=(l5.length:Int))then(an (decide ((0:Int)≤x6∧x6<(l6.length:Int))) (an (decide ((0:Int)≤x6∧x6<(l6.length:Int))) (an (decide ((0:Int)≤x2∧x2<((at_ [] l6 x6).length:Int))) ((R8.f k (at_ [] l6 x6) (at_ 0 (at_ [] l6 x6) x2) x5).bind fun x7=>an (decide ((0:Int)≤x6∧x6<(l6.length:Int))) (ax.l3 k a0 l5 x2 x5 (l6.set x6.toNat x7) (I W (x6+1)))))))else(ax.l3 k a0 l5 x2 x5 l6 (I W (x6+1))))else(an (decide ((l5.length+([x2]).length)*8≤140737488355328)) (ax.l1 k a0 l6 (l5++([x2])) (I W (x2+1))))
def ax.l4:Nat→(Int×Int×List Int)→List (List Int)→List (Int)→List (Int)→Int→Option ((Int×Int×List Int)×List Int)
 |0,_,_,_,_,_=>none
 |k+1,a0,l4,l5,l7,x8=>bif decide (x8<(l4.length:Int))then(an (decide ((0:Int)≤x8∧x8<(l4.length:Int))) (an (decide ((l7.length+(at_ [] l4 x8).length)*1≤140737488355328)) (ax.l4 k a0 l4 l5 (l7++at_ [] l4 x8) (I W (x8+1)))))else(some ((a0.1,a0.2.1,l7),l5))
end
def ax.f(k:Nat)(a0:Int×Int×List Int):Option ((Int×Int×List Int)×List Int):=(SB.f (a0.1,a0.2.1,a0.2.2)).bind fun x6=>bif !x6 then(some ((0,0,([]:List Int)),([]:List Int)))else(ax.l0 k a0 ([]:List (List Int)) a0.2.2 a0.2.2 0)
theorem ax.calls{a0:Int×Int×List Int}{r:(Int×Int×List Int)×List Int}(h0_2:Zf no w0 v0_2_ a0.2.2)(E:ax.f k a0=some r):
 Calls aa 93 #[.agg #[ii a0.1,ii a0.2.1,v0_2_]] w0 fun e w'=>∃(u0_2 u1:Value),e= .returned (.tuple #[.agg #[ii r.1.1,ii r.1.2.1,u0_2],u1])∧St no w0 w' [Y9 u0_2 r.1.2.2,Zh u1 r.2]:=by
 have H:=St.nil no w0
 unfold ax.f at E
 refine Zb func93 ?_
 refine rg (ye (bc (cs:=#[ii a0.1,ii a0.2.1,v0_2_]) H z (fun b1 w H=>ye (cr ra H (fun b2 w H=>A_ ?_)))))
 refine vr (bp (l:=[ii a0.1,ii a0.2.1,v0_2_]) jD (H.Gt 0 z) z z z) ?_
 refine ye (E9 WK H E (fun _=>SB.calls (H.arg (H.rd h0_2))) (fun x6 E w H=>A_ ?_))
 refine aE E z ?_ ?_<;>intro c8 E
 ·refine rg (vr (cf (cs:=[ii 0,ii 0,sn]) pb z) (s_ (cy lA H 1 z z z z z z (fun w H=>A_ ?_))))
  have H:=H.bB (.int .u8) 5
  have H:=H.bB (.int .i64) 3
  cases E
  exact(aL ⟨.inl z,_,tk0 z ⟨aB z (dL z jD (eG (n:=3) (H.Gt 1 z) z) z (ad ai)),_,_,z,H.bN 2 3 z z z⟩⟩)
 refine aA (ab (rg (vr (bp (l:=[ii a0.1,ii a0.2.1,v0_2_]) jD (H.Gt 0 z) z z z) (ye (cm 117 [.agg #[ii a0.1,ii a0.2.1,v0_2_]] WL func134 z z z z (rg (ye (bc (cs:=#[ii a0.1,ii a0.2.1,v0_2_]) H z (fun b3 w H=>J_ ?_)))))))))
 refine cA (fun t w=>∃(k1:Nat)(l1:List (List Int))(l2 l3:List Int)(v1:Value)(us1:List Sv)(B1:List Nat)(v2 v3:Value)(t1:Fr),k1≤k∧ax.j0 (ax.l1 k1) k1 a0 l1 l2 l3=some r∧Zf no w0 v2 l2∧Zf no w0 v3 l3∧t=aU t1 [(1,pt b3),(2,sn),(3,sn),(4,v1),Zc]∧St no w0 w [.blk b1 #[ii a0.1,ii a0.2.1,v2] 88,.blk b2 #[ii 0,ii 0,sn] 88,.blk b3 #[ii a0.1,ii a0.2.1,v3] 88,.rr no w0 (.int .u8) 22 v1 us1 l1 [] B1]) ?_ ?_
 ·refine A_ ?_
  have H:=H.Xi (.int .u8) 22
  refine bx (fun kk t w=>∃(l4:List (List Int))(l5 l6:List Int)(x1:Int)(v4:Value)(us2:List Sv)(B2:List Nat)(v5 v6:Value)(t2:Fr),kk≤k∧ax.l0 kk a0 l4 l5 l6 x1=some r∧Zf no w0 v5 l5∧Zf no w0 v6 l6∧t=aU t2 [(1,pt b3),(2,sn),(3,sn),(4,v4),(5,ii x1),Zc]∧St no w0 w [.blk b1 #[ii a0.1,ii a0.2.1,v5] 88,.blk b2 #[ii 0,ii 0,sn] 88,.blk b3 #[ii a0.1,ii a0.2.1,v6] 88,.rr no w0 (.int .u8) 22 v4 us2 l4 [] B2]) k ?_ ?_
  ·exact⟨_,_,_,_,_,_,_,_,_,_,aI _,E,h0_2,h0_2,Za,H⟩
  rintro kk t w ⟨l4,l5,l6,x1,v4,us2,B2,v5,v6,t2,hk1,E,h1,h2,rfl,H⟩
  obtain⟨k2,rfl⟩:=Zd kk
  rw[ax.l0]at E
  refine A_ ?_
  refine aE E z ?_ ?_<;>intro c1 E<;>refine A_ ?_
  ·obtain⟨⟨g1,g2,g3⟩,E⟩:=ar E
   have p1:(I W (x1*a0.2.1)).toNat≤(I W (I W (x1+1)*a0.2.1)).toNat:=a_
   have p2:(I W (I W (x1+1)*a0.2.1)).toNat≤l6.length:=a_
   refine vr (CI aN (H.rd h2) z z z g1 g2 g3) ?_
   obtain⟨p3,n1,c2,rfl⟩:=eO h2
   refine ye (oO (l:=[bz (.slice p3 n1 c2) ((I W (x1*a0.2.1)).toNat) ((I W (I W (x1+1)*a0.2.1)).toNat) 1]) ko H z f_ ⟨z,z,z,acu⟩ f_ (fun b4 w H=>?_))
   obtain⟨g4,E⟩:=ar E
   refine ye (YG ko H 3 z (Rd.bz h2 p1 p2) (Bm (H.Gt 4 z)) z z g4 u_ (fun v7 us3 w H=>A_ ?_))
   exact⟨k2,bL _,_,_,_,_,_,_,_,_,_,_,bK hk1,E,h1,h2,Za,H.Y8 [0,1,2,3]⟩
  exact⟨k2,_,_,_,_,_,_,_,_,_,a_,E,h1,h2,Za,H⟩
 rintro t w ⟨k1,l1,l2,l3,v1,us1,B1,v2,v3,t1,hk2,E,h3,h4,rfl,H⟩
 unfold ax.j0 at E
 refine A_ ?_
 have H:=H.bB (.int .i64) 3
 refine bx (fun kk t w=>∃(l7:List (List Int))(l8:List Int)(x2:Int)(v8:Value)(us4:List Sv)(B3:List Nat)(v9:Value)(t3:Fr),kk≤k1∧ax.l1 kk a0 l7 l8 x2=some r∧t=aU t3 [(1,pt b3),(2,sn),(3,sn),(4,v8),(6,v9),(7,ii x2),Zc]∧St no w0 w [.blk b1 #[ii a0.1,ii a0.2.1,v2] 88,.blk b2 #[ii 0,ii 0,sn] 88,.blk b3 #[ii a0.1,ii a0.2.1,v3] 88,.rr no w0 (.int .u8) 22 v8 us4 l7 [] B3,Zh v9 l8]) k1 Ze ?_
 rintro kk t w ⟨l7,l8,x2,v8,us4,B3,v9,t3,hk3,E,rfl,H⟩
 obtain⟨k3,rfl⟩:=Zd kk
 rw[ax.l1]at E
 refine A_ ?_
 refine aE E z ?_ ?_<;>intro c3 E
 ·refine aA (ab (ae (J_ ?_)))
  refine cA (fun t w=>∃(k4:Nat)(x3:Int)(t4:Fr),k4≤k3∧ax.j1 (ax.l1 k4) (ax.l3 k4) k4 a0 l7 l8 x2 x3=some r∧t=aU t4 [(1,pt b3),(2,sn),(3,sn),(4,v8),(6,v9),(7,ii x2),(8,ii x3),Zc]∧St no w0 w [.blk b1 #[ii a0.1,ii a0.2.1,v2] 88,.blk b2 #[ii 0,ii 0,sn] 88,.blk b3 #[ii a0.1,ii a0.2.1,v3] 88,.rr no w0 (.int .u8) 22 v8 us4 l7 [] B3,Zh v9 l8]) ?_ ?_
  ·refine rg (vm v8 (vr (aY nF (R9 H 3 z) z) (A_ ?_)))
   refine bx (fun kk t w=>∃(x4 x5:Int)(t5:Fr),kk≤k3∧ax.l2 kk a0 l7 l8 x2 x4 x5=some r∧t=aU t5 [(1,pt b3),(2,sn),(3,sn),(4,v8),(6,v9),(7,ii x2),(8,ii x4),(9,ii x5),Zc]∧St no w0 w [.blk b1 #[ii a0.1,ii a0.2.1,v2] 88,.blk b2 #[ii 0,ii 0,sn] 88,.blk b3 #[ii a0.1,ii a0.2.1,v3] 88,.rr no w0 (.int .u8) 22 v8 us4 l7 [] B3,Zh v9 l8]) k3 Ze ?_
   rintro kk t w ⟨x4,x5,t5,hk4,E,rfl,H⟩
   obtain⟨k5,rfl⟩:=Zd kk
   rw[ax.l2]at E
   refine A_ ?_
   refine aE E z ?_ ?_<;>intro c4 E<;>refine A_ ?_
   ·obtain⟨⟨g5,g6⟩,E⟩:=ar E
    refine vr (bo ko (R9 H 3 z) z z g5 g6) (vr (SA bQ (H.Gt 3 z) g5 g6 z) (A_ ?_))
    obtain⟨⟨g7,g8⟩,E⟩:=ar E
    refine vr (bo aN (Sr H 3 z g5 g6) z z g7 g8) (vr (bq bC (Sr H 3 z g5 g6) g7 g8 z) (A_ ?_))
    refine aE E z ?_ ?_<;>intro c5 E<;>refine A_ ?_
    ·exact⟨k5,bL _,_,_,_,bK hk4,E,Za,H⟩
    exact⟨k5,bL _,_,_,_,bK hk4,E,Za,H⟩
   exact⟨k5,_,_,a_,E,Za,H⟩
  rintro t w ⟨k4,x3,t4,hk5,E,rfl,H⟩
  unfold ax.j1 at E
  refine A_ ?_
  refine aE E z ?_ ?_<;>intro c6 E<;>refine A_ ?_
  ·exact⟨k4,a_,_,_,_,_,_,_,_,_,a_,E,Za,H⟩
  refine cd (ds:=[]) bZ H z z ?_
  have H:=H.drew
  refine B_ [0,1] H ?_
  obtain⟨⟨g9,g10⟩,E⟩:=ar E
  refine wz 2 z H (fun w H=>bo ko (R9 H 3 z) z z g9 g10) (wz 3 z H (fun w H=>SA bQ (H.Gt 3 z) g9 g10 z) (B_ [4] H ?_))
  obtain⟨⟨g11,g12⟩,E⟩:=ar E
  refine wz 5 z H (fun w H=>bo aN (Sr H 3 z g9 g10) z z g11 g12) (wz 6 z H (fun w H=>bq bC (Sr H 3 z g9 g10) g11 g12 z) (B_ [8,9] H ?_))
  obtain⟨⟨g13,g14⟩,E⟩:=ar E
  refine wz 10 z H (fun w H=>bo ko (R9 H 3 z) z z g13 g14) (wz 11 z H (fun w H=>SA bQ (H.Gt 3 z) g13 g14 z) ?_)
  refine wo 7 z (E9 Kj H E (fun _=>oz.calls) (fun x7 E w H=>⟨fun _=>H.Y8 [0,1,2,3,4],?_⟩))
  refine wo 12 z (YM WO H E (fun _=>R3.calls (TW H 3 z (Sr H 3 z g13 g14))) (fun x8 E v10 w H=>⟨fun _=>H.Y8 [0,1,2,3,4],B_ [13] (H.Y8 [0,1,2,3,4]) ?_⟩))
  obtain⟨⟨g15,g16⟩,E⟩:=ar E
  refine vr (bo ko (R9 H 3 z) z z g15 g16) (vr (SA bQ (H.Gt 3 z) g15 g16 z) ?_)
  obtain⟨⟨g17,g18⟩,E⟩:=ar E
  refine vr (bo ko (R9 H 3 z) z z g17 g18) (s_ (YK pA H 3 z g17 g18 g15 g16 z z (fun us5 w H=>A_ ?_)))
  obtain⟨⟨g19,g20⟩,E⟩:=ar E
  refine vr (bo ko (R9 H 3 z) z z g19 g20) ?_
  obtain⟨p4,n2,c7,rfl⟩:=bX (H.Gt 5 z)
  refine s_ (YJ pA H 3 5 z z z g19 g20 z z (fun us6 B4 w H=>A_ ?_))
  refine bx (fun kk t w=>∃(l9:List (List Int))(x9:Int)(v11:Value)(us7:List Sv)(B5:List Nat)(t6:Fr),kk≤k4∧ax.l3 kk a0 l8 x2 x8 l9 x9=some r∧t=aU t6 [(1,pt b3),(2,sn),(3,sn),(4,v11),(6,v9),(7,ii x2),(10,ii (l8.length:Int)),(11,(.slice p4 n2 c7)),(12,ii x9),Zc]∧St no w0 w [.blk b1 #[ii a0.1,ii a0.2.1,v2] 88,.blk b2 #[ii 0,ii 0,sn] 88,.blk b3 #[ii a0.1,ii a0.2.1,v3] 88,.rr no w0 (.int .u8) 22 v11 us7 l9 [((.slice p4 n2 c7),x8)] B5,Zh v9 l8,.gQ]) k4 Ze ?_
  rintro kk t w ⟨l9,x9,v11,us7,B5,t6,hk6,E,rfl,H⟩
  obtain⟨k6,rfl⟩:=Zd kk
  rw[ax.l3]at E
  refine A_ ?_
  refine vr (aY nF (R9 H 3 z) z) (A_ ?_)
  refine aE E z ?_ ?_<;>intro c9 E<;>refine A_ ?_
  ·refine aE E z ?_ ?_<;>intro c10 E
   ·refine cd (ds:=[16]) bZ H z z ?_
    have H:=H.drew
    refine B_ [0,1,2,3] H ?_
    obtain⟨⟨g21,g22⟩,E⟩:=ar E
    refine wz 4 z H (fun w H=>bo ko (R9 H 3 z) z z g21 g22) (wz 5 z H (fun w H=>SA bQ (H.Gt 3 z) g21 g22 z) (B_ [6,7] H ?_))
    obtain⟨⟨g23,g24⟩,E⟩:=ar E
    refine wz 8 z H (fun w H=>bo ko (R9 H 3 z) z z g23 g24) (wz 9 z H (fun w H=>SA bQ (H.Gt 3 z) g23 g24 z) (B_ [10] H ?_))
    obtain⟨⟨g25,g26⟩,E⟩:=ar E
    refine wz 11 z H (fun w H=>bo aN (Sr H 3 z g23 g24) z z g25 g26) (wz 12 z H (fun w H=>bq bC (Sr H 3 z g23 g24) g25 g26 z) (B_ [13] H ?_))
    refine wo 14 z (YM WQ H E (fun _=>R8.calls (TW H 3 z (Sr H 3 z g21 g22)) (TW H 3 z (X2 H 3 z))) (fun x10 E v12 w H=>⟨fun _=>H.Y8 [0,1,2,3,4,5],?_⟩))
    obtain⟨⟨g27,g28⟩,E⟩:=ar E
    refine wz 15 z (H.Y8 [0,1,2,3,4,5]) (fun w H=>bo ko (R9 H 3 z) z z g27 g28) ?_
    obtain⟨p5,n3,c11,rfl⟩:=bX (H.Gt 6 z)
    refine wo 16 z (YI pA H 3 6 z z z g27 g28 z z (fun us8 B6 w H=>⟨fun h=>(h f_).elim,wd (A_ ?_)⟩))
    exact⟨k6,bL _,_,_,_,_,_,_,bK hk6,E,Za,H.Y8 [0,1,2,3,4,5]⟩
   refine A_ ?_
   exact⟨k6,bL _,_,_,_,_,_,_,bK hk6,E,Za,H⟩
  refine ye (cL (e:=(.int .i64)) (l:=[x2]) gl H z f_ ⟨z,z,acu⟩ f_ (fun v13 w H=>?_))
  obtain⟨g29,E⟩:=ar E
  refine ye (dZ gl H 4 z (ao (H.Gt 6 z)) z z a_ u_ (fun v14 w H=>A_ ?_))
  have H:=H.Wk 3 z
  exact⟨k6,a_,_,_,_,_,_,_,_,_,a_,E,Za,H.Y8 [0,1,2,3,4]⟩
 refine A_ ?_
 refine⟨.inl z,.tuple #[v8,v9],tk0 z ⟨ba z (ad (ad ai)) z,vr cz (vr (aX z z) (vr (aX z z) (va v8 (va v9 (nl (rg (vr (az mq z) (vr (av bf z (ak (H.Gt 0 z) z)) (vr (az cS z) (vr (av bf z (ak (H.Gt 0 z) z)) (vr (cf (cs:=[ii a0.1,ii a0.2.1,sn]) pb z) (ye (cr ra H (fun b5 w H=>s_ (cy lA H 5 z z z z z z (fun w H=>nl (ae (rg (va (ii 0) (nl (aG ?_)))))))))))))))))))))⟩⟩
 have H:=H.bB (.int .u8) 5
 refine bx (fun kk t w=>∃(l10:List Int)(x11:Int)(v15:Value)(t7:Fr),kk≤k3∧ax.l4 kk a0 l7 l8 l10 x11=some r∧t=aU t7 [(2,pt b2),(3,sn),(4,v8),(5,v9),(6,pt b5),(7,ii x11),Zc]∧St no w0 w [.blk b1 #[ii a0.1,ii a0.2.1,v2] 88,.blk b2 #[ii 0,ii 0,sn] 88,.blk b3 #[ii a0.1,ii a0.2.1,v3] 88,.rr no w0 (.int .u8) 22 v8 us4 l7 [] B3,Zh v9 l8,.blk b5 #[ii a0.1,ii a0.2.1,v15] 88,Y9 v15 l10]) k3 Ze ?_
 rintro kk t w ⟨l10,x11,v15,t7,hk7,E,rfl,H⟩
 obtain⟨k7,rfl⟩:=Zd kk
 rw[ax.l4]at E
 refine A_ ?_
 refine vr (aY nF (R9 H 3 z) z) (A_ ?_)
 refine aE E z ?_ ?_<;>intro c12 E<;>refine A_ ?_
 ·refine eZ (ds:=[8]) (fun w=>∃(v':Value)(l':List Int),St no w0 w [.blk b1 #[ii a0.1,ii a0.2.1,v2] 88,.blk b2 #[ii 0,ii 0,sn] 88,.blk b3 #[ii a0.1,ii a0.2.1,v3] 88,.rr no w0 (.int .u8) 22 v8 us4 l7 [] B3,Zh v9 l8,.blk b5 #[ii a0.1,ii a0.2.1,v15] 88,Y9 v' l']) bZ H z z ?_
  have H:=H.drew
  refine B_ [0,1,2,3] ⟨_,_,H⟩ ?_
  obtain⟨⟨g30,g31⟩,E⟩:=ar E
  refine wz 4 z ⟨_,_,H⟩ (fun w ⟨v',l',H⟩=>bo ko (R9 H 3 z) z z g30 g31) (wz 5 z ⟨_,_,H⟩ (fun w ⟨v',l',H⟩=>SA bQ (H.Gt 3 z) g30 g31 z) ?_)
  obtain⟨g32,E⟩:=ar E
  refine wo 6 z (dZ aN H 6 z (Sr H 3 z g30 g31) z z a_ u_ (fun v16 w H=>⟨fun _=>⟨_,_,H.Y8 [0,1,2,3,4,5,6]⟩,B_ [7] ⟨_,_,H.Y8 [0,1,2,3,4,5,6]⟩ ?_⟩))
  obtain⟨p6,n4,c13,rfl⟩:=bX (H.Gt 6 z)
  refine wo 8 z (cQ pA H 5 z z z z z (fun w H=>⟨fun h=>(h f_).elim,wd (A_ ?_)⟩))
  exact⟨k7,bL _,_,_,_,_,bK hk7,E,Za,H⟩
 refine vr (bp (l:=[ii a0.1,ii a0.2.1,v15]) jD (H.Gt 5 z) z z z) (A_ ?_)
 obtain⟨p7,n5,c14,rfl⟩:=bX (H.Gt 6 z)
 refine s_ (cy lA H 1 z z z z z z (fun w H=>A_ ?_))
 cases E
 exact⟨.inl z,_,tk0 z ⟨aB z (dL z jD (eG (n:=3) (H.Gt 1 z) z) z (ad ai)),_,_,z,H.bN 6 4 z z z⟩⟩
def gC.j0(l1r:((Int×Int×List Int)×List Int)→List (List Int)→Int→Int→List (Int)→Int→Option (List (List Int)))(k:Nat)(x2:(Int×Int×List Int)×List Int)(l1:List (List Int))(x1 x3:Int):Option (List (List Int)):=an (decide ((0:Int)≤x2.1.2.1∧x2.1.2.1≤x2.1.2.1∧x2.1.2.1≤140737488355328)) (an (decide ((0:Int)≤x3∧x3<((List.replicate x2.1.2.1.toNat (0:Int)).length:Int))) (l1r x2 l1 x1 x3 ((List.replicate x2.1.2.1.toNat (0:Int)).set x3.toNat 1) 0))
mutual
def gC.l0:Nat→((Int×Int×List Int)×List Int)→List (List Int)→Int→Int→Option (List (List Int))
 |0,_,_,_,_=>none
 |k+1,x2,l1,x1,x3=>bif decide (x3<x2.1.2.1)then(bif decide (x1<(x2.2.length:Int))then(an (decide ((0:Int)≤x1∧x1<(x2.2.length:Int))) (bif decide (at_ 0 x2.2 x1=x3)then(gC.l0 k x2 l1 (I W (x1+1)) (I W (x3+1)))else(gC.j0 (gC.l1 k) k x2 l1 x1 x3)))else(gC.j0 (gC.l1 k) k x2 l1 x1 x3))else(some l1)
def gC.l1:Nat→((Int×Int×List Int)×List Int)→List (List Int)→Int→Int→List (Int)→Int→Option (List (List Int))
 |0,_,_,_,_,_,_=>none
 |k+1,x2,l1,x1,x3,l2,x4=>bif decide (x4<(x2.2.length:Int))then(an (decide ((0:Int)≤x4∧x4<(x2.2.length:Int))) (an (decide ((0:Int)≤I W (I W (x4*x2.1.2.1)+x3)∧I W (I W (x4*x2.1.2.1)+x3)<(x2.1.2.2.length:Int))) (an (decide ((0:Int)≤at_ 0 x2.2 x4∧at_ 0 x2.2 x4<(l2.length:Int))) (gC.l1 k x2 l1 x1 x3 (l2.set (at_ 0 x2.2 x4).toNat (at_ 0 x2.1.2.2 (I W (I W (x4*x2.1.2.1)+x3)))) (I W (x4+1))))))else(an (decide ((l1.length+1)*24≤140737488355328)) (gC.l0 k x2 (l1++[l2]) x1 (I W (x3+1))))
end
def gC.f(k:Nat)(a0:Int×Int×List Int):Option (List (List Int)):=(ax.f k (a0.1,a0.2.1,a0.2.2)).bind fun x2=>gC.l0 k x2 ([]:List (List Int)) 0 0
theorem gC.calls{a0:Int×Int×List Int}{r:List (List Int)}(h0_2:Zf no w0 v0_2_ a0.2.2)(E:gC.f k a0=some r):
 Calls aa 56 #[.agg #[ii a0.1,ii a0.2.1,v0_2_]] w0 fun e w'=>∃(u0:Value)(us0:List Sv),e= .returned (u0)∧St no w0 w' [.rows (.int .u8) 5 22 u0 us0 r]:=by
 have H:=St.nil no w0
 unfold gC.f at E
 refine Zb func56 ?_
 refine rg (ye (bc (cs:=#[ii a0.1,ii a0.2.1,v0_2_]) H z (fun b1 w H=>A_ ?_)))
 refine vr (bp (l:=[ii a0.1,ii a0.2.1,v0_2_]) jD (H.Gt 0 z) z z z) ?_
 obtain⟨x2,E3,E⟩:=ay E
 refine ye (au W7 z ((ax.calls (H.arg (H.rd h0_2)) E3).mono ?_))
 rintro _ w ⟨v4,v5,rfl,K⟩
 have H:=H.app K
 refine⟨_,z,A_ ?_⟩
 refine ye (cr ra H (fun b6 w H=>?_))
 obtain⟨p7,n8,c9,rfl⟩:=bX (H.Gt 1 z)
 refine s_ (cy lA H 3 z z z z z z (fun w H=>A_ ?_))
 have H:=H.BK (.int .u8) 5 22
 refine bx (fun kk t w=>∃(l1:List (List Int))(x1 x3:Int)(v1:Value)(us1:List Sv)(t1:Fr),kk≤k∧gC.l0 kk x2 l1 x1 x3=some r∧t=aU t1 [(2,sn),(3,pt b6),(4,v5),(5,v1),(6,ii x1),(7,ii x3),Zc]∧St no w0 w [.blk b1 #[ii a0.1,ii a0.2.1,v0_2_] 88,Y9 (.slice p7 n8 c9) x2.1.2.2,Zh v5 x2.2,.blk b6 #[ii x2.1.1,ii x2.1.2.1,(.slice p7 n8 c9)] 88,.rows (.int .u8) 5 22 v1 us1 l1]) k Ze ?_
 rintro kk t w ⟨l1,x1,x3,v1,us1,t1,hk1,E,rfl,H⟩
 obtain⟨k1,rfl⟩:=Zd kk
 rw[gC.l0]at E
 refine A_ ?_
 refine aE E z ?_ ?_<;>intro c1 E
 ·refine aA (ab (ae (aG ?_)))
  refine cA (fun t w=>∃(k2:Nat)(t2:Fr),k2≤k1∧gC.j0 (gC.l1 k2) k2 x2 l1 x1 x3=some r∧t=aU t2 [(2,sn),(3,pt b6),(4,v5),(5,v1),(6,ii x1),(7,ii x3),Zc]∧St no w0 w [.blk b1 #[ii a0.1,ii a0.2.1,v0_2_] 88,Y9 (.slice p7 n8 c9) x2.1.2.2,Zh v5 x2.2,.blk b6 #[ii x2.1.1,ii x2.1.2.1,(.slice p7 n8 c9)] 88,.rows (.int .u8) 5 22 v1 us1 l1]) ?_ ?_
  ·refine A_ ?_
   rcases bR (decide (x1<(x2.2.length:Int)))with c2|c2
   ·have E:=iT c2 E
    refine A_ ?_
    obtain⟨⟨g1,g2⟩,E⟩:=ar E
    refine A_ ?_
    refine aE E z ?_ ?_<;>intro c3 E
    ·refine A_ ?_
     exact⟨k1,bL _,_,_,_,_,_,_,bK hk1,E,Za,H⟩
    refine aA ?_
    exact⟨k1,_,aI _,E,Za,H⟩
   have E:=iF c2 E
   refine A_ ?_
   exact⟨k1,_,aI _,E,Za,H⟩
  rintro t w ⟨k2,t2,hk2,E,rfl,H⟩
  unfold gC.j0 at E
  refine A_ ?_
  obtain⟨⟨g3,g4,g5⟩,E⟩:=ar E
  refine ye (ee (e:=(.int .u8)) (z0:=0) aN z H z z g3 g4 a_ a_ (fun v2 w H=>A_ ?_))
  obtain⟨⟨g6,g7⟩,E⟩:=ar E
  refine A_ ?_
  refine s_ (dc dB H 5 z g6 g7 z z (fun w H=>A_ ?_))
  refine bx (fun kk t w=>∃(l2:List Int)(x4:Int)(t3:Fr),kk≤k2∧gC.l1 kk x2 l1 x1 x3 l2 x4=some r∧t=aU t3 [(2,sn),(3,pt b6),(4,v5),(5,v1),(6,ii x1),(7,ii x3),(8,v2),(9,ii x4),Zc]∧St no w0 w [.blk b1 #[ii a0.1,ii a0.2.1,v0_2_] 88,Y9 (.slice p7 n8 c9) x2.1.2.2,Zh v5 x2.2,.blk b6 #[ii x2.1.1,ii x2.1.2.1,(.slice p7 n8 c9)] 88,.rows (.int .u8) 5 22 v1 us1 l1,Y9 v2 l2]) k2 Ze ?_
  rintro kk t w ⟨l2,x4,t3,hk3,E,rfl,H⟩
  obtain⟨k3,rfl⟩:=Zd kk
  rw[gC.l1]at E
  refine A_ ?_
  refine aE E z ?_ ?_<;>intro c4 E<;>refine A_ ?_
  ·refine cd (ds:=[16]) bZ H z z ?_
   have H:=H.drew
   refine B_ [0,1,2] H ?_
   obtain⟨⟨g8,g9⟩,E⟩:=ar E
   refine B_ [3,4,5,6,7,8,9,10,11,12] H ?_
   obtain⟨⟨g10,g11⟩,E⟩:=ar E
   refine B_ [13,14] H ?_
   obtain⟨⟨g12,g13⟩,E⟩:=ar E
   refine B_ [15] H ?_
   refine wo 16 z (dc dB H 5 z g12 g13 z z (fun w H=>⟨fun h=>(h f_).elim,wd (A_ ?_)⟩))
   exact⟨k3,bL _,_,_,_,bK hk3,E,Za,H⟩
  obtain⟨p1,n1,c5,rfl⟩:=bX (H.Gt 5 z)
  refine ye (oO (l:=[(.slice p1 n1 c5)]) ko H z f_ ⟨z,z,z,acu⟩ f_ (fun b2 w H=>?_))
  obtain⟨g14,E⟩:=ar E
  refine ye (D7 ko H 4 5 z z z (Bm (H.Gt 6 z)) z z g14 u_ (fun v3 us2 w H=>A_ ?_))
  exact⟨k3,a_,_,_,_,_,_,_,a_,E,Za,H.Y8 [0,1,2,3,4]⟩
 refine A_ ?_
 cases E
 exact⟨.inl z,_,tk0 z ⟨aB z (ad ai),_,_,z,H.bA 4 z⟩⟩
def gB.j0(l2r:List Int→List Int→Int→Int→Int→List (Int)→Int→Option (Int×Int×List Int))(k:Nat)(a0 a1:List Int)(a2 a3 x1:Int)(l1:List Int):Option (Int×Int×List Int):=l2r a0 a1 a2 a3 x1 l1 0
mutual
def gB.l0:Nat→List Int→List Int→Int→Int→List (Int)→Int→Option (Int×Int×List Int)
 |0,_,_,_,_,_,_=>none
 |k+1,a0,a1,a2,a3,l1,x1=>bif decide (x1<(a0.length:Int))then(gB.l1 k a0 a1 a2 a3 x1 l1 0)else(some ((a0.length:Int),I W (I W (a2+I W (2*a3))+1),l1))
def gB.l1:Nat→List Int→List Int→Int→Int→Int→List (Int)→Int→Option (Int×Int×List Int)
 |0,_,_,_,_,_,_,_=>none
 |k+1,a0,a1,a2,a3,x1,l2,x2=>bif decide (x2<I W (a2+a3))then(an (decide ((0:Int)≤x1∧x1<(a0.length:Int))) ((eX.f k (at_ 0 a0 x1) x2).bind fun x3=>an (decide ((l2.length+([x3]).length)*1≤140737488355328)) (gB.l1 k a0 a1 a2 a3 x1 (l2++([x3])) (I W (x2+1)))))else(gB.j0 (gB.l2 k) k a0 a1 a2 a3 x1 l2)
def gB.l2:Nat→List Int→List Int→Int→Int→Int→List (Int)→Int→Option (Int×Int×List Int)
 |0,_,_,_,_,_,_,_=>none
 |k+1,a0,a1,a2,a3,x1,l3,x4=>bif decide (x4≤a3)then(an (decide ((0:Int)≤x1∧x1<(a1.length:Int))) (an (decide ((0:Int)≤x1∧x1<(a0.length:Int))) ((eX.f k (at_ 0 a0 x1) x4).bind fun x5=>(ik.f k (at_ 0 a1 x1) x5).bind fun x6=>an (decide ((l3.length+([x6]).length)*1≤140737488355328)) (gB.l2 k a0 a1 a2 a3 x1 (l3++([x6])) (I W (x4+1))))))else(gB.l0 k a0 a1 a2 a3 l3 (I W (x1+1)))
end
def gB.f(k:Nat)(a0 a1:List Int)(a2 a3:Int):Option (Int×Int×List Int):=gB.l0 k a0 a1 a2 a3 ([]:List Int) 0
theorem gB.calls{a0 a1:List Int}{a2 a3:Int}{r:(Int×Int×List Int)}(h0:Zf no w0 v0_ a0)(h1:Zf no w0 v1_ a1)(E:gB.f k a0 a1 a2 a3=some r):
 Calls aa 57 #[v0_,v1_,ii a2,ii a3] w0 fun e w'=>∃(u0_2:Value),e= .returned (.agg #[ii r.1,ii r.2.1,u0_2])∧St no w0 w' [Y9 u0_2 r.2.2]:=by
 have H:=St.nil no w0
 unfold gB.f at E
 refine Zb func57 ?_
 refine rg (ye (cr ra H (fun b1 w H=>A_ ?_)))
 refine vr (cf (cs:=[ii (a0.length:Int),ii (I W (I W (a2+I W (2*a3))+1)),sn]) pb z) (ye (cr ra H (fun b2 w H=>s_ (cy lA H 1 z z z z z z (fun w H=>A_ ?_)))))
 have H:=H.bB (.int .u8) 5
 refine bx (fun kk t w=>∃(l1:List Int)(x1:Int)(v1:Value)(t1:Fr),kk≤k∧gB.l0 kk a0 a1 a2 a3 l1 x1=some r∧t=aU t1 [(0,v0_),(1,v1_),(2,ii a2),(3,ii a3),(8,pt b1),(9,pt b2),(10,ii x1),Zc]∧St no w0 w [.blk b1 #[ii 0,ii 0,sn] 88,.blk b2 #[ii (a0.length:Int),ii (I W (I W (a2+I W (2*a3))+1)),v1] 88,Y9 v1 l1]) k Ze ?_
 rintro kk t w ⟨l1,x1,v1,t1,hk1,E,rfl,H⟩
 obtain⟨k1,rfl⟩:=Zd kk
 rw[gB.l0]at E
 refine A_ ?_
 refine aE E z ?_ ?_<;>intro c1 E
 ·refine aA (ab (ae (aG ?_)))
  refine cA (fun t w=>∃(k2:Nat)(l2:List Int)(v2:Value)(t2:Fr),k2≤k1∧gB.j0 (gB.l2 k2) k2 a0 a1 a2 a3 x1 l2=some r∧t=aU t2 [(0,v0_),(1,v1_),(2,ii a2),(3,ii a3),(8,pt b1),(9,pt b2),(10,ii x1),Zc]∧St no w0 w [.blk b1 #[ii 0,ii 0,sn] 88,.blk b2 #[ii (a0.length:Int),ii (I W (I W (a2+I W (2*a3))+1)),v2] 88,Y9 v2 l2]) ?_ ?_
  ·refine A_ ?_
   refine bx (fun kk t w=>∃(l3:List Int)(x2:Int)(v3:Value)(t3:Fr),kk≤k1∧gB.l1 kk a0 a1 a2 a3 x1 l3 x2=some r∧t=aU t3 [(0,v0_),(1,v1_),(2,ii a2),(3,ii a3),(8,pt b1),(9,pt b2),(10,ii x1),(11,ii x2),Zc]∧St no w0 w [.blk b1 #[ii 0,ii 0,sn] 88,.blk b2 #[ii (a0.length:Int),ii (I W (I W (a2+I W (2*a3))+1)),v3] 88,Y9 v3 l3]) k1 Ze ?_
   rintro kk t w ⟨l3,x2,v3,t3,hk2,E,rfl,H⟩
   obtain⟨k3,rfl⟩:=Zd kk
   rw[gB.l1]at E
   refine A_ ?_
   refine aE E z ?_ ?_<;>intro c2 E<;>refine A_ ?_
   ·refine eZ (ds:=[11]) (fun w=>∃(v':Value)(l':List Int),St no w0 w [.blk b1 #[ii 0,ii 0,sn] 88,.blk b2 #[ii (a0.length:Int),ii (I W (I W (a2+I W (2*a3))+1)),v3] 88,Y9 v' l']) bZ H z z ?_
    have H:=H.drew
    refine B_ [0,1,2,3] ⟨_,_,H⟩ ?_
    obtain⟨⟨g1,g2⟩,E⟩:=ar E
    refine B_ [4,5,6] ⟨_,_,H⟩ ?_
    refine wo 7 z (E9 Ko H E (fun _=>eX.calls) (fun x3 E w H=>⟨fun _=>⟨_,_,H.Y8 [0,1,2]⟩,wo 8 z (cL (e:=(.int .u8)) (l:=[x3]) aN H z f_ ⟨z,z,acu⟩ f_ (fun v4 w H=>⟨fun _=>⟨_,_,H.Y8 [0,1,2]⟩,?_⟩))⟩))
    obtain⟨g3,E⟩:=ar E
    refine wo 9 z (dZ aN H 2 z (ao (H.Gt 3 z)) z z a_ u_ (fun v5 w H=>⟨fun _=>⟨_,_,H.Y8 [0,1,2]⟩,B_ [10] ⟨_,_,H.Y8 [0,1,2]⟩ ?_⟩))
    obtain⟨p1,n1,c3,rfl⟩:=bX (H.Gt 2 z)
    refine wo 11 z (cQ pA H 1 z z z z z (fun w H=>⟨fun h=>(h f_).elim,wd (A_ ?_)⟩))
    exact⟨k3,bL _,_,_,_,_,bK hk2,E,Za,H.Y8 [0,1,2]⟩
   exact⟨k3,_,_,_,a_,E,Za,H⟩
  rintro t w ⟨k2,l2,v2,t2,hk3,E,rfl,H⟩
  unfold gB.j0 at E
  refine A_ ?_
  refine bx (fun kk t w=>∃(l4:List Int)(x4:Int)(v6:Value)(t4:Fr),kk≤k2∧gB.l2 kk a0 a1 a2 a3 x1 l4 x4=some r∧t=aU t4 [(0,v0_),(1,v1_),(2,ii a2),(3,ii a3),(8,pt b1),(9,pt b2),(10,ii x1),(12,ii x4),Zc]∧St no w0 w [.blk b1 #[ii 0,ii 0,sn] 88,.blk b2 #[ii (a0.length:Int),ii (I W (I W (a2+I W (2*a3))+1)),v6] 88,Y9 v6 l4]) k2 Ze ?_
  rintro kk t w ⟨l4,x4,v6,t4,hk4,E,rfl,H⟩
  obtain⟨k4,rfl⟩:=Zd kk
  rw[gB.l2]at E
  refine A_ ?_
  refine aE E z ?_ ?_<;>intro c4 E<;>refine A_ ?_
  ·refine eZ (ds:=[16]) (fun w=>∃(v':Value)(l':List Int),St no w0 w [.blk b1 #[ii 0,ii 0,sn] 88,.blk b2 #[ii (a0.length:Int),ii (I W (I W (a2+I W (2*a3))+1)),v6] 88,Y9 v' l']) bZ H z z ?_
   have H:=H.drew
   refine B_ [0,1,2,3] ⟨_,_,H⟩ ?_
   obtain⟨⟨g4,g5⟩,E⟩:=ar E
   refine B_ [4,5,6,7] ⟨_,_,H⟩ ?_
   obtain⟨⟨g6,g7⟩,E⟩:=ar E
   refine B_ [8,9,10] ⟨_,_,H⟩ ?_
   refine wo 11 z (E9 Ko H E (fun _=>eX.calls) (fun x5 E w H=>⟨fun _=>⟨_,_,H.Y8 [0,1,2]⟩,?_⟩))
   refine wo 12 z (E9 rC H E (fun _=>ik.calls) (fun x6 E w H=>⟨fun _=>⟨_,_,H.Y8 [0,1,2]⟩,wo 13 z (cL (e:=(.int .u8)) (l:=[x6]) aN H z f_ ⟨z,z,acu⟩ f_ (fun v7 w H=>⟨fun _=>⟨_,_,H.Y8 [0,1,2]⟩,?_⟩))⟩))
   obtain⟨g8,E⟩:=ar E
   refine wo 14 z (dZ aN H 2 z (ao (H.Gt 3 z)) z z a_ u_ (fun v8 w H=>⟨fun _=>⟨_,_,H.Y8 [0,1,2]⟩,B_ [15] ⟨_,_,H.Y8 [0,1,2]⟩ ?_⟩))
   obtain⟨p2,n2,c5,rfl⟩:=bX (H.Gt 2 z)
   refine wo 16 z (cQ pA H 1 z z z z z (fun w H=>⟨fun h=>(h f_).elim,wd (A_ ?_)⟩))
   have H:St _ _ _ [_,_,_,_]:=H
   refine A_ ?_
   exact⟨k4,bL _,_,_,_,_,bK hk4,E,Za,H.Y8 [0,1,2]⟩
  exact⟨k4,a_,_,_,_,_,a_,E,Za,H⟩
 refine A_ ?_
 refine vr (bp (l:=[ii (a0.length:Int),ii (I W (I W (a2+I W (2*a3))+1)),v1]) jD (H.Gt 1 z) z z z) ?_
 obtain⟨p3,n3,c6,rfl⟩:=bX (H.Gt 2 z)
 refine s_ (cy lA H 0 z z z z z z (fun w H=>A_ ?_))
 cases E
 exact⟨.inl z,_,tk0 z ⟨aB z (dL z jD (eG (n:=3) (H.Gt 0 z) z) z ai),_,z,H.bA 2 z⟩⟩
def Sq.f(k:Nat)(a0 a1:List Int):Option (List Int×Bool):=(eC.f k a0 a1).bind fun x1=>bif !x1.2.2 then(some (([]:List Int),false))else(bif decide (0<(x1.2.1.length:Int))then(some (([]:List Int),false))else(some (x1.1,true)))
theorem Sq.calls{a0 a1:List Int}{r:List Int×Bool}(h0:Zf no w0 v0_ a0)(h1:Zf no w0 v1_ a1)(E:Sq.f k a0 a1=some r):
 Calls aa 58 #[v0_,v1_] w0 fun e w'=>∃(u0:Value),e= .returned (.tuple #[u0,.bool r.2])∧St no w0 w' [Y9 u0 r.1]:=by
 have H:=St.nil no w0
 unfold Sq.f at E
 refine Zb func58 ?_
 refine A_ ?_
 obtain⟨x1,E2,E⟩:=ay E
 refine ye (au Kq z ((eC.calls (H.arg (H.rd h0)) (H.arg (H.rd h1)) E2).mono ?_))
 rintro _ w ⟨v3,v4,rfl,K⟩
 have H:=H.app K
 refine⟨_,z,A_ ?_⟩
 rcases bR (!x1.2.2)with c5|c5
 ·have E:=iT c5 E
  refine A_ ?_
  have H:=H.bB (.int .u8) 5
  cases E
  exact(aL ⟨.inl z,_,tk0 z ⟨aB z (ad (ad ai)),_,z,H.bA 2 z⟩⟩)
 have E:=iF c5 E
 refine A_ ?_
 refine aE E z ?_ ?_<;>intro c6 E<;>refine A_ ?_
 ·have H:=H.bB (.int .u8) 5
  cases E
  exact(aL ⟨.inl z,_,tk0 z ⟨aB z (ad (ad ai)),_,z,H.bA 2 z⟩⟩)
 cases E
 exact⟨.inl z,_,tk0 z ⟨aB z (ad (ad ai)),_,z,H.bA 0 z⟩⟩
def RI.l0:Nat→List Int→Int→Int→Int→Option (Int)
 |0,_,_,_,_=>none
 |k+1,a0,a1,x9,x1=>bif decide (x1<(a0.length:Int))then(an (decide ((0:Int)≤x1∧x1<(a0.length:Int))) ((eX.f k a1 x1).bind fun x2=>(ik.f k (at_ 0 a0 x1) x2).bind fun x3=>RI.l0 k a0 a1 (bits .xor .u8 x9 x3) (I W (x1+1))))else(some x9)
def RI.f(k:Nat)(a0:List Int)(a1:Int):Option (Int):=RI.l0 k a0 a1 0 0
theorem RI.calls{a0:List Int}{a1:Int}{r:Int}(h0:Zf no w0 v0_ a0)(E:RI.f k a0 a1=some r):
 Calls aa 61 #[v0_,iu a1] w0 fun e w'=>e= .returned (iu r)∧St no w0 w' []:=by
 have H:=St.nil no w0
 unfold RI.f at E
 refine Zb func61 ?_
 refine A_ ?_
 refine bx (fun kk t w=>∃(x9 x1:Int)(t1:Fr),kk≤k∧RI.l0 kk a0 a1 x9 x1=some r∧t=aU t1 [(0,v0_),(1,iu a1),(4,iu 0),(5,iu x9),(6,ii x1),Zc]∧St no w0 w []) k Ze ?_
 rintro kk t w ⟨x9,x1,t1,hk1,E,rfl,H⟩
 obtain⟨k19,rfl⟩:=Zd kk
 rw[RI.l0]at E
 refine A_ ?_
 refine aE E z ?_ ?_<;>intro c1 E<;>refine A_ ?_
 ·refine cd (ds:=[]) bZ H z z ?_
  have H:=H.drew
  refine B_ [0,1,2] H ?_
  obtain⟨⟨g1,g2⟩,E⟩:=ar E
  refine B_ [3,4,5,6] H ?_
  refine wo 7 z (E9 Ko H E (fun _=>eX.calls) (fun x2 E w H=>⟨fun _=>H.Y8 [],?_⟩))
  refine wo 8 z (E9 rC H E (fun _=>ik.calls) (fun x3 E w H=>⟨fun _=>H.Y8 [],B_ [9,10] (H.Y8 []) ?_⟩))
  exact⟨k19,bL _,_,_,_,bK hk1,E,Za,H⟩
 cases E
 exact⟨.inl z,_,tk0 z ⟨aB z (ad ai),z,H.bs⟩⟩
def RZ.l0:Nat→List Int→List Int→List Int→Int→Int→Option (Int)
 |0,_,_,_,_,_=>none
 |k+1,a0,a1,a2,x1,x2=>bif decide (x2<(a1.length:Int))then(bif decide (x2<(a2.length:Int))then(an (decide ((0:Int)≤x2∧x2<(a1.length:Int))) (an (decide ((0:Int)≤x2∧x2<(a2.length:Int))) ((RI.f k a0 (at_ 0 a1 x2)).bind fun x3=>bif !decide (x3=at_ 0 a2 x2)then(RZ.l0 k a0 a1 a2 (I W (x1+1)) (I W (x2+1)))else(RZ.l0 k a0 a1 a2 x1 (I W (x2+1))))))else(some x1))else(some x1)
def RZ.f(k:Nat)(a0 a1 a2:List Int):Option (Int):=RZ.l0 k a0 a1 a2 0 0
theorem RZ.calls{a0 a1 a2:List Int}{r:Int}(h0:Zf no w0 v0_ a0)(h1:Zf no w0 v1_ a1)(h2:Zf no w0 v2_ a2)(E:RZ.f k a0 a1 a2=some r):
 Calls aa 60 #[v0_,v1_,v2_] w0 fun e w'=>e= .returned (ii r)∧St no w0 w' []:=by
 have H:=St.nil no w0
 unfold RZ.f at E
 refine Zb func60 ?_
 refine A_ ?_
 refine bx (fun kk t w=>∃(x1 x2:Int)(t1:Fr),kk≤k∧RZ.l0 kk a0 a1 a2 x1 x2=some r∧t=aU t1 [(0,v0_),(1,v1_),(2,v2_),(6,ii 0),(7,ii x1),(8,ii x2),Zc]∧St no w0 w []) k Ze ?_
 rintro kk t w ⟨x1,x2,t1,hk1,E,rfl,H⟩
 obtain⟨k25,rfl⟩:=Zd kk
 rw[RZ.l0]at E
 refine A_ ?_
 rcases bR (decide (x2<(a1.length:Int)))with c1|c1
 ·have E:=iT c1 E
  refine A_ ?_
  refine aE E z ?_ ?_<;>intro c2 E<;>refine A_ ?_
  ·refine cd (ds:=[]) bZ H z z ?_
   have H:=H.drew
   refine B_ [0,1,2] H ?_
   obtain⟨⟨g1,g2⟩,E⟩:=ar E
   refine B_ [3,4,6,7] H ?_
   obtain⟨⟨g3,g4⟩,E⟩:=ar E
   refine B_ [8,9] H ?_
   refine wo 5 z (E9 TC H E (fun _=>RI.calls (H.arg (H.rd h0))) (fun x3 E w H=>⟨fun _=>H.Y8 [],B_ [10] (H.Y8 []) ?_⟩))
   refine aE E z ?_ ?_<;>intro c3 E<;>refine A_ ?_
   ·exact⟨k25,bL _,_,_,_,bK hk1,E,Za,H⟩
   exact⟨k25,bL _,_,_,_,bK hk1,E,Za,H⟩
  cases E
  exact⟨.inl z,_,tk0 z ⟨aB z (ad ai),z,H.bs⟩⟩
 have E:=iF c1 E
 refine A_ ?_
 cases E
 exact⟨.inl z,_,tk0 z ⟨aB z (ad ai),z,H.bs⟩⟩
def RJ.l0:Nat→List Int→List Int→Int→List (List Int)→Int→Option (List Int×Bool)
 |0,_,_,_,_,_=>none
 |k+1,a0,a1,a2,x1,x2=>bif decide (x2<(x1.length:Int))then(an (decide ((0:Int)≤x2∧x2<(x1.length:Int))) (an (decide ((0:Int)≤I W (a2+I W (Int.tdiv (I W ((a0.length:Int)-a2)) 2))∧I W (a2+I W (Int.tdiv (I W ((a0.length:Int)-a2)) 2))≤((at_ [] x1 x2).length:Int))) (an (decide ((0:Int)≤x2∧x2<(x1.length:Int))) (an (decide ((0:Int)≤I W (a2+I W (Int.tdiv (I W ((a0.length:Int)-a2)) 2))∧I W (a2+I W (Int.tdiv (I W ((a0.length:Int)-a2)) 2))≤((at_ [] x1 x2).length:Int))) ((Sq.f k (((at_ [] x1 x2).take ((I W (a2+I W (Int.tdiv (I W ((a0.length:Int)-a2)) 2))).toNat)).drop 0) (((at_ [] x1 x2).take ((at_ [] x1 x2).length)).drop ((I W (a2+I W (Int.tdiv (I W ((a0.length:Int)-a2)) 2))).toNat))).bind fun x3=>bif x3.2 then((fV.f k x3.1).bind fun x4=>bif decide (x4<a2)then((RZ.f k x3.1 a0 a1).bind fun x5=>bif decide (x5≤I W (Int.tdiv (I W ((a0.length:Int)-a2)) 2))then(some (x3.1,true))else(RJ.l0 k a0 a1 a2 x1 (I W (x2+1))))else(RJ.l0 k a0 a1 a2 x1 (I W (x2+1))))else(RJ.l0 k a0 a1 a2 x1 (I W (x2+1))))))))else(some (([]:List Int),false))
def RJ.f(k:Nat)(a0 a1:List Int)(a2:Int):Option (List Int×Bool):=(Rt.f k a0 a1 a2).bind fun x4=>bif !x4 then(some (([]:List Int),false))else((gB.f k a0 a1 a2 (I W (Int.tdiv (I W ((a0.length:Int)-a2)) 2))).bind fun x7=>(gC.f k (x7.1,x7.2.1,x7.2.2)).bind fun x1=>RJ.l0 k a0 a1 a2 x1 0)
theorem RJ.calls{a0 a1:List Int}{a2:Int}{r:List Int×Bool}(h0:Zf no w0 v0_ a0)(h1:Zf no w0 v1_ a1)(E:RJ.f k a0 a1 a2=some r):
 Calls aa 25 #[v0_,v1_,ii a2] w0 fun e w'=>∃(u0:Value),e= .returned (.tuple #[u0,.bool r.2])∧St no w0 w' [Y9 u0 r.1]:=by
 have H:=St.nil no w0
 unfold RJ.f at E
 refine Zb func25 ?_
 refine A_ ?_
 refine ye (E9 WV H E (fun _=>Rt.calls (H.arg (H.rd h0)) (H.arg (H.rd h1))) (fun x4 E w H=>A_ ?_))
 refine aE E z ?_ ?_<;>intro c6 E<;>refine A_ ?_
 ·have H:=H.bB (.int .u8) 5
  cases E
  exact(aL ⟨.inl z,_,tk0 z ⟨aB z (ad (ad ai)),_,z,H.bA 0 z⟩⟩)
 refine ye (YM WX H E (fun _=>gB.calls (H.arg (H.rd h0)) (H.arg (H.rd h1))) (fun x7 E v9 w H=>?_))
 obtain⟨x1,E1,E⟩:=ay E
 refine ye (au WW z ((gC.calls (H.own 0 z (ao (H.Gt 0 z))) E1).mono ?_))
 rintro _ w ⟨v1,us1,rfl,K⟩
 have H:=H.app K
 refine⟨_,z,A_ ?_⟩
 refine bx (fun kk t w=>∃(x2:Int)(t1:Fr),kk≤k∧RJ.l0 kk a0 a1 a2 x1 x2=some r∧t=aU t1 [(0,v0_),(1,v1_),(2,ii a2),(6,sn),(7,.bool false),(8,ii (I W (Int.tdiv (I W ((a0.length:Int)-a2)) 2))),(9,v1),(10,ii x2),Zc]∧St no w0 w [Y9 v9 x7.2.2,.rows (.int .u8) 5 22 v1 us1 x1]) k Ze ?_
 rintro kk t w ⟨x2,t1,hk1,E,rfl,H⟩
 obtain⟨k1,rfl⟩:=Zd kk
 rw[RJ.l0]at E
 refine A_ ?_
 refine vr (aY nF (uy (H.Gt 1 z)) z) (A_ ?_)
 refine aE E z ?_ ?_<;>intro c1 E<;>refine A_ ?_
 ·refine cd (ds:=[]) bZ H z z ?_
  have H:=H.drew
  refine B_ [0,1] H ?_
  obtain⟨⟨g1,g2⟩,E⟩:=ar E
  refine wz 2 z H (fun w H=>bo ko (uy (H.Gt 1 z)) z z g1 g2) (wz 3 z H (fun w H=>CG bQ (H.Gt 1 z) g1 g2 z) (B_ [4,5,6] H ?_))
  obtain⟨⟨g3,g4⟩,E⟩:=ar E
  have p1:0≤(I W (a2+I W (Int.tdiv (I W ((a0.length:Int)-a2)) 2))).toNat:=a_
  have p2:(I W (a2+I W (Int.tdiv (I W ((a0.length:Int)-a2)) 2))).toNat≤(at_ [] x1 x2).length:=a_
  refine wz 7 z H (fun w H=>fU aN (uw (H.Gt 1 z) g1 g2) z z g3 g4) (B_ [8,9] H ?_)
  obtain⟨⟨g5,g6⟩,E⟩:=ar E
  refine wz 10 z H (fun w H=>bo ko (uy (H.Gt 1 z)) z z g5 g6) (wz 11 z H (fun w H=>CG bQ (H.Gt 1 z) g5 g6 z) (B_ [12,13,14] H ?_))
  obtain⟨⟨g7,g8⟩,E⟩:=ar E
  have p3:(I W (a2+I W (Int.tdiv (I W ((a0.length:Int)-a2)) 2))).toNat≤(at_ [] x1 x2).length:=a_
  have p4:(at_ [] x1 x2).length≤(at_ [] x1 x2).length:=a_
  refine wz 15 z H (fun w H=>iW aN (uw (H.Gt 1 z) g5 g6) z z g7 g8) ?_
  refine wo 16 z (YM WY H E (fun _=>Sq.calls (H.own 1 z (Rd.bz (uw (H.Gt 1 z) g1 g2) p1 p2)) (H.own 1 z (Rd.bz (uw (H.Gt 1 z) g5 g6) p3 p4))) (fun x3 E v2 w H=>⟨fun _=>H.Y8 [0,1],B_ [17,18,19,20,21] (H.Y8 [0,1]) ?_⟩))
  rcases bR (x3.2)with c2|c2
  ·have E:=iT c2 E
   refine A_ ?_
   refine dP z c2 z (E9 A8 H E (fun _=>fV.calls (H.own 2 z (ao (H.Gt 2 z)))) (fun x5 E w H=>A_ ?_))
   rcases bR (decide (x5<a2))with c3|c3
   ·have E:=iT c3 E
    refine A_ ?_
    refine dP z c3 z (E9 W0 H E (fun _=>RZ.calls (H.own 2 z (ao (H.Gt 2 z))) (H.arg (H.rd h0)) (H.arg (H.rd h1))) (fun x6 E w H=>A_ ?_))
    refine aE E z ?_ ?_<;>intro c4 E<;>refine A_ ?_
    ·cases E
     exact(bG (aL (aL (bG (aL ⟨.inl z,_,tk0 z ⟨aB z (ad (ad ai)),_,z,H.bA 2 z⟩⟩)))))
    exact⟨k1,bL _,_,_,bK hk1,E,Za,H.Y8 [0,1]⟩
   have E:=iF c3 E
   refine A_ ?_
   exact⟨k1,bL _,_,_,bK hk1,E,Za,H.Y8 [0,1]⟩
  have E:=iF c2 E
  refine A_ ?_
  exact⟨k1,bL _,_,_,bK hk1,E,Za,H.Y8 [0,1]⟩
 have H:=H.bB (.int .u8) 5
 cases E
 exact⟨.inl z,_,tk0 z ⟨aB z (ad (ad ai)),_,z,H.bA 2 z⟩⟩
end Go.Proofs.YtmhkpafkadijgaaGreatDoor.Gw
