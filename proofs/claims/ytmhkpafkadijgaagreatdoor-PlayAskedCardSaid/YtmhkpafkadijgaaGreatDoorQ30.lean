/- A part of the proof of Rows.PlayAskedCardSaid; the conditions are that card's own. -/
import Derived.Test.YtmhkpafkadijgaaGreatDoorQ29
set_option linter.all false
set_option maxRecDepth 100000
set_option maxHeartbeats 4000000
namespace Go.Proofs.YtmhkpafkadijgaaGreatDoor.Gw
open Go Go.RowKit
variable[de]
open Go.IntKind (i8 i16 i32 i64 u8 u16 u32 u64)
open Tryz renaming prog → aa
def cw.j0(l1r:Int→Int→ByteArray→ByteArray→ByteArray→Int→Option Bool)(k:Nat)(a3 a4:Int)(x1 x2:ByteArray):Option (Bool):=l1r a3 a4 x1 x2 A9 0
def cw.j1(k:Nat)(x1 x2 x3:ByteArray):Option (Bool):=(pP.f k).bind fun x4=>bif x4 then(an (decide ((x1.size+vV.size:Nat)≤140737488355328)) ((bg.f k (cat x1 vV)).bind fun x5=>an (decide ((x2.size+x3.size:Nat)≤140737488355328)) (an (decide (((cat x2 x3).size+fE.size:Nat)≤140737488355328)) (some (decide (x5=cat (cat x2 x3) fE))))))else(some false)
def cw.j3(l1r:Int→Int→ByteArray→ByteArray→ByteArray→Int→Option Bool)(k:Nat)(a3 a4:Int)(x1 x2:ByteArray)(x3 x4:Int)(x5:ByteArray):Option (Bool):=(strconv_Itoa.f x4).bind fun x6=>an (decide ((x5.size+x6.size:Nat)≤140737488355328)) (l1r a3 a4 x1 x2 (cat x5 x6) (i64.wrap (x3+1)))
def cw.j2(l1r:Int→Int→ByteArray→ByteArray→ByteArray→Int→Option Bool)(k:Nat)(a3 a4:Int)(x1 x2 x3:ByteArray)(x4 x5:Int):Option (Bool):=bif decide (0<x4)then(an (decide ((x3.size+fu.size:Nat)≤140737488355328)) (cw.j3 l1r k a3 a4 x1 x2 x4 x5 (cat x3 fu)))else(cw.j3 l1r k a3 a4 x1 x2 x4 x5 x3)
mutual
def cw.l0:Nat→Int→Int→(Int×Int×Int)→(List Int×Int)→ByteArray→ByteArray→ByteArray→Int→Option (Bool)
 |0,_,_,_,_,_,_,_,_=>none
 |k+1,a3,a4,x1,x7,x2,x3,x4,x5=>bif decide (x5<i64.wrap (Int.tmod a4 7))then(an (decide ((x3.size+lG.size:Nat)≤140737488355328)) (an (decide (((cat x3 lG).size+x2.size:Nat)≤140737488355328)) (an (decide (((cat (cat x3 lG) x2).size+nS.size:Nat)≤140737488355328)) (an (decide (((cat (cat (cat x3 lG) x2) nS).size+x2.size:Nat)≤140737488355328)) (an (decide (((cat (cat (cat (cat x3 lG) x2) nS) x2).size+fE.size:Nat)≤140737488355328)) (an (decide ((0:Int)≤i64.wrap (x1.1-x1.2.1)∧i64.wrap (x1.1-x1.2.1)≤(x7.1.length:Int))) ((fh.f k ((x7.1.take x7.1.length).drop ((i64.wrap (x1.1-x1.2.1)).toNat))).bind fun x6=>an (decide ((x4.size+x6.size:Nat)≤140737488355328)) (an (decide (((cat x4 x6).size+fu.size:Nat)≤140737488355328)) (an (decide (((cat (cat x4 x6) fu).size+x2.size:Nat)≤140737488355328)) (an (decide (((cat (cat (cat x4 x6) fu) x2).size+mH.size:Nat)≤140737488355328)) (an (decide ((0:Int)≤i64.wrap (x1.1-x1.2.1)∧i64.wrap (x1.1-x1.2.1)≤i64.wrap (x1.1-x1.2.1)∧i64.wrap (x1.1-x1.2.1)≤140737488355328)) ((fh.f k (List.replicate (i64.wrap (x1.1-x1.2.1)).toNat (0:Int))).bind fun x8=>an (decide (((cat (cat (cat (cat x4 x6) fu) x2) mH).size+x8.size:Nat)≤140737488355328)) (an (decide (((cat (cat (cat (cat (cat x4 x6) fu) x2) mH) x8).size+fE.size:Nat)≤140737488355328)) (cw.l0 k a3 a4 x1 x7 x2 (cat (cat (cat (cat (cat x3 lG) x2) nS) x2) fE) (cat (cat (cat (cat (cat (cat x4 x6) fu) x2) mH) x8) fE) (i64.wrap (x5+1))))))))))))))))else(cw.j0 (cw.l1 k) k a3 a4 x3 x4)
def cw.l1:Nat→Int→Int→ByteArray→ByteArray→ByteArray→Int→Option (Bool)
 |0,_,_,_,_,_,_=>none
 |k+1,a3,a4,x9,x10,x11,x12=>bif decide (x12<9)then(bif decide (x12=i64.wrap ((i64.wrap (i64.wrap (3*i64.wrap ((i64.wrap (1+i64.wrap (Int.tmod a3 3)))-1))+i64.wrap (1+i64.wrap (Int.tmod (u8.wrap (Int.tdiv a3 3)) 3))))-1))then(cw.j2 (cw.l1 k) k a3 a4 x9 x10 x11 x12 (i64.wrap (Int.tmod a4 7)))else(cw.j2 (cw.l1 k) k a3 a4 x9 x10 x11 x12 0))else(cw.j1 k x9 x10 x11)
end
def cw.f(k:Nat)(a0 a1 a2 a3 a4:Int)(a5:List Int):Option (Bool):=(nU.f a0 a1 a2).bind fun x1=>(nT.f (x1.1,x1.2.1,x1.2.2) a5).bind fun x4=>(ir.f k (x1.1,x1.2.1,x1.2.2) x4).bind fun x7=>(nV.f (x1.1,x1.2.1,x1.2.2)).bind fun x2=>an (decide ((x2.size+mI.size:Nat)≤140737488355328)) ((strconv_Itoa.f (i64.wrap (1+i64.wrap (Int.tmod a3 3)))).bind fun x3=>an (decide (((cat x2 mI).size+x3.size:Nat)≤140737488355328)) (an (decide (((cat (cat x2 mI) x3).size+fu.size:Nat)≤140737488355328)) ((strconv_Itoa.f (i64.wrap (1+i64.wrap (Int.tmod (u8.wrap (Int.tdiv a3 3)) 3)))).bind fun x5=>an (decide (((cat (cat (cat x2 mI) x3) fu).size+x5.size:Nat)≤140737488355328)) (an (decide (((cat (cat (cat (cat x2 mI) x3) fu) x5).size+fE.size:Nat)≤140737488355328)) ((fh.f k x7.1).bind fun x6=>cw.l0 k a3 a4 x1 x7 x6 (cat (cat (cat (cat (cat x2 mI) x3) fu) x5) fE) vU 0)))))
theorem cw.calls{w0:World}{k:Nat}{a0 a1 a2 a3 a4:Int}{a5:List Int}{v5_:Value}{r:Bool}(hf:(Rs.env).inv w0)(h5:Rd (.of (.int .u8)) w0 (Ol no w0) v5_ a5)(E:cw.f k a0 a1 a2 a3 a4 a5=some r):
 Calls aa 4 #[iu a0,iu a1,iu a2,iu a3,iu a4,v5_] w0 fun e w'=>e= .returned (.bool r)∧St (Rs.env).fp w0 w' [.gt,.lv]:=by
 have H:=vD hf
 unfold cw.f at E
 refine aP (N:=131) (args:=[iu a0,iu a1,iu a2,iu a3,iu a4,v5_]) Tryz.func4 z z (by simp) ?_
 refine rg (va (.bool false) (nl (rg (vm (iu a0) (vm (iu a1) (vm (iu a2) ?_))))))
 obtain⟨x1,E2,E⟩:=ay E
 refine ye (au Km z ((nU.calls E2).mono ?_))
 rintro _ w ⟨rfl,K⟩
 have H:=H.app K
 refine⟨_,z,ye (cr rU H (fun b3 w H=>s_ (cy qj H 2 z z z z z z (fun w H=>nl (ae (cd (ds:=[]) bZ H z z ?_))))))⟩
 have H:=H.drew
 refine wz 0 z H (fun w H=>bp (l:=[ii x1.1,ii x1.2.1,ii x1.2.2]) cv (H.Gt 2 z) z z z) (wz 1 z H (fun w H=>bp (l:=[ii x1.1,ii x1.2.1,ii x1.2.2]) cv (H.Gt 2 z) z z z) (wm 2 z H v5_ ?_))
 obtain⟨x4,E5,E⟩:=ay E
 refine wo 3 z (au Kh z ((nT.calls (Iz H (IB H z z hf h5)) E5).mono ?_))
 rintro _ w ⟨v6,rfl,K⟩
 have H:=H.app K
 refine⟨_,z,⟨fun _=>H.ag [0,1,2] z z,?_⟩⟩
 obtain⟨x7,E8,E⟩:=ay E
 refine wo 4 z (au Kg z ((ir.calls (H.own 3 z (ao (H.Gt 3 z))) E8).mono ?_))
 rintro _ w ⟨v9,rfl,K⟩
 have H:=H.app K
 refine⟨_,z,⟨fun _=>H.ag [0,1,2] z z,?_⟩⟩
 have H:St (Rs.env).fp w0 _ [.gt,.lv,.blk b3 #[ii x1.1,ii x1.2.1,ii x1.2.2] 24,.own (.int .u8) 5 v6 x4,.own (.int .u8) 5 v9 x7.1]:=H
 refine wg 5 z (H.ag [0,1,2] z z) cz (wg 6 z (H.ag [0,1,2] z z) (aX z z) (wg 7 z (H.ag [0,1,2] z z) (aX z z) (wy 8 z (H.ag [0,1,2] z z) (sg v9 z) (wg 9 z (H.ag [0,1,2] z z) (sg (ii x7.2) z) (wd (ab (rg (vm (iu a3) (vr (fg z z (by decide)) (vr (cD z Tryz.underlying5 Tryz.underlying3) (vr (aO z z) (va (ii (i64.wrap (1+i64.wrap (Int.tmod a3 3)))) (nl (rg (vm (iu a3) (vr (ie z z (by decide)) (vr (fg z z (by decide)) (vr (cD z Tryz.underlying5 Tryz.underlying3) (vr (aO z z) (va (ii (i64.wrap (1+i64.wrap (Int.tmod (u8.wrap (Int.tdiv a3 3)) 3)))) (nl (rg (vr (bp (l:=[ii x1.1,ii x1.2.1,ii x1.2.2]) cv (H.Gt 2 z) z z z) ?_)))))))))))))))))))))))
 obtain⟨x2,E1,E⟩:=ay E
 refine ye (au Kf z ((nV.calls (H.Gt 1 z) E1).mono ?_))
 rintro _ w ⟨rfl,K⟩
 have H:=H.aV 1 z K
 refine⟨_,z,?_⟩
 obtain⟨g1,E⟩:=ar E
 refine vr (cJ z z g1) (vm (ii (i64.wrap (1+i64.wrap (Int.tmod a3 3)))) ?_)
 obtain⟨x3,E3,E⟩:=ay E
 refine ye (au vR z ((strconv_Itoa.calls (H.Gt 1 z) E3).mono ?_))
 rintro _ w ⟨rfl,K⟩
 have H:=H.aV 1 z K
 refine⟨_,z,?_⟩
 obtain⟨g2,E⟩:=ar E
 refine vr (cJ z z g2) ?_
 obtain⟨g3,E⟩:=ar E
 refine vr (cJ z z g3) (vm (ii (i64.wrap (1+i64.wrap (Int.tmod (u8.wrap (Int.tdiv a3 3)) 3)))) ?_)
 obtain⟨x5,E4,E⟩:=ay E
 refine ye (au vR z ((strconv_Itoa.calls (H.Gt 1 z) E4).mono ?_))
 rintro _ w ⟨rfl,K⟩
 have H:=H.aV 1 z K
 refine⟨_,z,?_⟩
 obtain⟨g4,E⟩:=ar E
 refine vr (cJ z z g4) ?_
 obtain⟨g5,E⟩:=ar E
 refine vr (cJ z z g5) (va (.string (cat (cat (cat (cat (cat x2 mI) x3) fu) x5) fE)) (nl (rg (va (.string vU) (nl (rg (vm v9 ?_)))))))
 obtain⟨x6,E6,E⟩:=ay E
 refine ye (au rB z ((fh.calls (H.own 4 z (ao (H.Gt 4 z))) E6).mono ?_))
 rintro _ w ⟨rfl,K⟩
 have H:=H.app K
 refine⟨_,z,va (.string x6) (nl ?_)⟩
 refine cA (fun t w=>∃(k1:Nat)(x8 x9:ByteArray)(t1:Fr),k1≤k∧cw.j0 (cw.l1 k1) k1 a3 a4 x8 x9=some r∧t=aU t1 [(4,iu a4),(12,.bool false),(16,ii (i64.wrap (1+i64.wrap (Int.tmod a3 3)))),(17,ii (i64.wrap (1+i64.wrap (Int.tmod (u8.wrap (Int.tdiv a3 3)) 3)))),(18,.string x8),(19,.string x9),(1000000,undef)]∧St (Rs.env).fp w0 w [.gt,.lv,.blk b3 #[ii x1.1,ii x1.2.1,ii x1.2.2] 24,.own (.int .u8) 5 v6 x4,.own (.int .u8) 5 v9 x7.1]) ?_ ?_
 ·refine rg (va (ii 0) (nl (aG ?_)))
  refine bx (fun kk t w=>∃(x11 x12:ByteArray)(x14:Int)(t2:Fr),kk≤k∧cw.l0 kk a3 a4 x1 x7 x6 x11 x12 x14=some r∧t=aU t2 [(4,iu a4),(12,.bool false),(13,pt b3),(14,v9),(16,ii (i64.wrap (1+i64.wrap (Int.tmod a3 3)))),(17,ii (i64.wrap (1+i64.wrap (Int.tmod (u8.wrap (Int.tdiv a3 3)) 3)))),(18,.string x11),(19,.string x12),(20,.string x6),(21,ii x14),(1000000,undef)]∧St (Rs.env).fp w0 w [.gt,.lv,.blk b3 #[ii x1.1,ii x1.2.1,ii x1.2.2] 24,.own (.int .u8) 5 v6 x4,.own (.int .u8) 5 v9 x7.1]) k ?_ ?_
  ·exact⟨_,_,_,_,aI _,E,aD ⟨z,z,z,z,z,z,z,z,z,z,z,trivial⟩,H⟩
  rintro kk t w ⟨x11,x12,x14,t2,hk1,E,rfl,H⟩
  obtain⟨k2,rfl⟩|rfl:=ks kk
  rotate_left
  ·cases E
  rw[cw.l0]at E
  refine ae (rg (vm (ii x14) (vm (iu a4) (vr (fg z z (by decide)) (vr (cD z Tryz.underlying5 Tryz.underlying3) (vr (aZ z z) (nl ?_)))))))
  refine aE E z (fun c1 E=>?_) (fun c1 E=>?_)
  ·refine aA (ab (ae (aG (rg (vm (.string x11) ?_)))))
   obtain⟨g6,E⟩:=ar E
   refine vr (cJ z z g6) (vm (.string x6) ?_)
   obtain⟨g7,E⟩:=ar E
   refine vr (cJ z z g7) ?_
   obtain⟨g8,E⟩:=ar E
   refine vr (cJ z z g8) (vm (.string x6) ?_)
   obtain⟨g9,E⟩:=ar E
   refine vr (cJ z z g9) ?_
   obtain⟨g10,E⟩:=ar E
   refine vr (cJ z z g10) (va (.string (cat (cat (cat (cat (cat x11 lG) x6) nS) x6) fE)) (nl (cd (ds:=[]) bZ H z z ?_)))
   have H:=H.drew
   refine wm 0 z H (.string x12) (wm 1 z H v9 (wg 2 z H (az eJ z) (wz 3 z H (fun w H=>av bf z (ak (H.Gt 2 z) z)) (wg 4 z H (az jh z) (wz 5 z H (fun w H=>av bf z (ak (H.Gt 2 z) z)) (wg 6 z H (bV z z) ?_))))))
   obtain⟨⟨g11,g13⟩,E⟩:=ar E
   have p1:(i64.wrap (x1.1-x1.2.1)).toNat≤x7.1.length:=by omega
   have p2:x7.1.length≤x7.1.length:=by omega
   refine wz 7 z H (fun w H=>iW aN (ao (H.Gt 4 z)) z z g11 g13) (wm 11 z H (.string x6) (wg 14 z H (az eJ z) (wz 15 z H (fun w H=>av bf z (ak (H.Gt 2 z) z)) (wg 16 z H (az jh z) (wz 17 z H (fun w H=>av bf z (ak (H.Gt 2 z) z)) (wg 18 z H (bV z z) ?_))))))
   obtain⟨x15,E7,E⟩:=ay E
   obtain⟨g14,E⟩:=ar E
   obtain⟨g17,E⟩:=ar E
   obtain⟨g18,E⟩:=ar E
   obtain⟨g21,E⟩:=ar E
   obtain⟨⟨g22,g23,g24⟩,E⟩:=ar E
   obtain⟨x16,E9,E⟩:=ay E
   obtain⟨g25,E⟩:=ar E
   obtain⟨g26,E⟩:=ar E
   refine DU (C:=fun t w=>∃(v1:Value)(t3:Fr),t=aU t3 [(4,iu a4),(12,.bool false),(13,pt b3),(14,v9),(16,ii (i64.wrap (1+i64.wrap (Int.tmod a3 3)))),(17,ii (i64.wrap (1+i64.wrap (Int.tmod (u8.wrap (Int.tdiv a3 3)) 3)))),(18,.string (cat (cat (cat (cat (cat x11 lG) x6) nS) x6) fE)),(19,.string (cat (cat (cat (cat (cat (cat x12 x15) fu) x6) mH) x16) fE)),(20,.string x6),(21,ii x14),(1000000,undef)]∧St (Rs.env).fp w0 w [.gt,.lv,.blk b3 #[ii x1.1,ii x1.2.1,ii x1.2.2] 24,.own (.int .u8) 5 v6 x4,.own (.int .u8) 5 v9 x7.1,.own (.int .u8) 5 v1 (List.replicate (i64.wrap (x1.1-x1.2.1)).toNat (0:Int))]) (l2:=tf 24 24) (n2:=0) ?_ fun cut209=>?_
   ·rintro t w ⟨v1,t3,rfl,H⟩
    refine wd (aR (ab (aH ?_)))
    have H:St (Rs.env).fp w0 _ [.gt,.lv,.blk b3 #[ii x1.1,ii x1.2.1,ii x1.2.2] 24,.own (.int .u8) 5 v6 x4,.own (.int .u8) 5 v9 x7.1,.own (.int .u8) 5 v1 (List.replicate (i64.wrap (x1.1-x1.2.1)).toNat (0:Int))]:=H
    refine vm (ii x14) (vr (aO z z) (va (ii (i64.wrap (x14+1))) (aK ?_)))
    exact⟨k2,bL _,_,_,_,_,bK hk1,E,aD ⟨z,z,z,z,z,z,z,z,z,z,z,trivial⟩,H.ag [0,1,2,3,4] z z⟩
   refine lZ (i:=8) (j:=19) (li:=#[true,true,true,true,true,true,true,true,true,false,false,true,false,false,true,true,true,true,true,false,false,false,false,false]) (lj:=#[true,true,true,true,true,true,true,true,false,false,false,true,false,false,true,true,true,true,true,true,false,false,false,false]) z z z z z z (by kernel_rfl) ?_ ?_
   ·refine(au rB z ((fh.calls (H.own 4 z (Rd.bz (ao (H.Gt 4 z)) p1 p2)) E7).mono ?_))
    rintro _ w ⟨rfl,K⟩
    have H:=H.app K
    refine⟨_,z,⟨fun _=>H.ag [0,1,2,3,4] z z,wg 9 z (H.ag [0,1,2,3,4] z z) (cJ z z g14) (wg 10 z (H.ag [0,1,2,3,4] z z) (cJ z z g17) (wg 12 z (H.ag [0,1,2,3,4] z z) (cJ z z g18) (wg 13 z (H.ag [0,1,2,3,4] z z) (cJ z z g21) (wo 19 z (ee (e:=(.int .u8)) (z0:=0) aN z H z z g22 g23 (by omega) (by omega) (fun v1 w H=>⟨fun _=>H.ag [0,1,2,3,4] z z,wo 20 z (au rB z ((fh.calls (H.own 5 z (ao (H.Gt 5 z))) E9).mono ?_))⟩))))))⟩⟩
    rintro _ w ⟨rfl,K⟩
    have H:=H.app K
    refine⟨_,z,⟨fun _=>H.ag [0,1,2,3,4] z z,wg 21 z (H.ag [0,1,2,3,4] z z) (cJ z z g25) (wg 22 z (H.ag [0,1,2,3,4] z z) (cJ z z g26) ?_)⟩⟩
    have H:St (Rs.env).fp w0 _ [.gt,.lv,.blk b3 #[ii x1.1,ii x1.2.1,ii x1.2.2] 24,.own (.int .u8) 5 v6 x4,.own (.int .u8) 5 v9 x7.1,.own (.int .u8) 5 v1 (List.replicate (i64.wrap (x1.1-x1.2.1)).toNat (0:Int))]:=H
    refine wg 23 z (H.ag [0,1,2,3,4] z z) (sg (.string (cat (cat (cat (cat (cat (cat x12 x15) fu) x6) mH) x16) fE)) z) ?_
    exact cut209 _ _ ⟨_,_,aD ⟨z,z,z,z,z,z,z,z,z,z,z,trivial⟩,H⟩
   ·refine(ee (e:=(.int .u8)) (z0:=0) aN z H z z g22 g23 (by omega) (by omega) (fun v1 w H=>⟨fun _=>H.ag [0,1,2,3,4] z z,wo 8 z (au rB z ((fh.calls (H.own 4 z (Rd.bz (ao (H.Gt 4 z)) p1 p2)) E7).mono ?_))⟩))
    rintro _ w ⟨rfl,K⟩
    have H:=H.app K
    refine⟨_,z,⟨fun _=>H.ag [0,1,2,3,4] z z,wg 9 z (H.ag [0,1,2,3,4] z z) (cJ z z g14) (wg 10 z (H.ag [0,1,2,3,4] z z) (cJ z z g17) (wg 12 z (H.ag [0,1,2,3,4] z z) (cJ z z g18) (wg 13 z (H.ag [0,1,2,3,4] z z) (cJ z z g21) (wo 20 z (au rB z ((fh.calls (H.own 5 z (ao (H.Gt 5 z))) E9).mono ?_))))))⟩⟩
    rintro _ w ⟨rfl,K⟩
    have H:=H.app K
    refine⟨_,z,⟨fun _=>H.ag [0,1,2,3,4] z z,wg 21 z (H.ag [0,1,2,3,4] z z) (cJ z z g25) (wg 22 z (H.ag [0,1,2,3,4] z z) (cJ z z g26) ?_)⟩⟩
    have H:St (Rs.env).fp w0 _ [.gt,.lv,.blk b3 #[ii x1.1,ii x1.2.1,ii x1.2.2] 24,.own (.int .u8) 5 v6 x4,.own (.int .u8) 5 v9 x7.1,.own (.int .u8) 5 v1 (List.replicate (i64.wrap (x1.1-x1.2.1)).toNat (0:Int))]:=H
    refine wg 23 z (H.ag [0,1,2,3,4] z z) (sg (.string (cat (cat (cat (cat (cat (cat x12 x15) fu) x6) mH) x16) fE)) z) ?_
    exact cut209 _ _ ⟨_,_,aD ⟨z,z,z,z,z,z,z,z,z,z,z,trivial⟩,H⟩
  ·refine bt (aM (aM (bu ?_)))
   exact⟨k2,_,_,_,by omega,E,aD ⟨z,z,z,z,z,z,z,trivial⟩,H⟩
 rintro t w ⟨k1,x8,x9,t1,hk2,E,rfl,H⟩
 unfold cw.j0 at E
 refine rg (va (.string A9) (nl ?_))
 refine cA (fun t w=>∃(k3:Nat)(x18:ByteArray)(t4:Fr),k3≤k1∧cw.j1 k3 x8 x9 x18=some r∧t=aU t4 [(12,.bool false),(18,.string x8),(19,.string x9),(22,.string x18),(1000000,undef)]∧St (Rs.env).fp w0 w [.gt,.lv,.blk b3 #[ii x1.1,ii x1.2.1,ii x1.2.2] 24,.own (.int .u8) 5 v6 x4,.own (.int .u8) 5 v9 x7.1]) ?_ ?_
 ·refine rg (va (ii 0) (nl (aG ?_)))
  refine bx (fun kk t w=>∃(x19:ByteArray)(x20:Int)(t5:Fr),kk≤k1∧cw.l1 kk a3 a4 x8 x9 x19 x20=some r∧t=aU t5 [(4,iu a4),(12,.bool false),(16,ii (i64.wrap (1+i64.wrap (Int.tmod a3 3)))),(17,ii (i64.wrap (1+i64.wrap (Int.tmod (u8.wrap (Int.tdiv a3 3)) 3)))),(18,.string x8),(19,.string x9),(22,.string x19),(23,ii x20),(1000000,undef)]∧St (Rs.env).fp w0 w [.gt,.lv,.blk b3 #[ii x1.1,ii x1.2.1,ii x1.2.2] 24,.own (.int .u8) 5 v6 x4,.own (.int .u8) 5 v9 x7.1]) k1 ?_ ?_
  ·exact⟨_,_,_,aI _,E,aD ⟨z,z,z,z,z,z,z,z,z,trivial⟩,H⟩
  rintro kk t w ⟨x19,x20,t5,hk3,E,rfl,H⟩
  obtain⟨k4,rfl⟩|rfl:=ks kk
  rotate_left
  ·cases E
  rw[cw.l1]at E
  refine ae (rg (vm (ii x20) (vr (aZ z z) (nl ?_))))
  refine aE E z (fun c2 E=>?_) (fun c2 E=>?_)
  ·refine aA (ab (ae (aG (rg (va (ii 0) (nl ?_))))))
   refine cA (fun t w=>∃(k5:Nat)(x22:Int)(t6:Fr),k5≤k4∧cw.j2 (cw.l1 k5) k5 a3 a4 x8 x9 x19 x20 x22=some r∧t=aU t6 [(4,iu a4),(12,.bool false),(16,ii (i64.wrap (1+i64.wrap (Int.tmod a3 3)))),(17,ii (i64.wrap (1+i64.wrap (Int.tmod (u8.wrap (Int.tdiv a3 3)) 3)))),(18,.string x8),(19,.string x9),(22,.string x19),(23,ii x20),(24,ii x22),(1000000,undef)]∧St (Rs.env).fp w0 w [.gt,.lv,.blk b3 #[ii x1.1,ii x1.2.1,ii x1.2.2] 24,.own (.int .u8) 5 v6 x4,.own (.int .u8) 5 v9 x7.1]) ?_ ?_
   ·refine rg (vm (ii x20) (vm (ii (i64.wrap (1+i64.wrap (Int.tmod a3 3)))) (vr (bV z z) (vr (cF z z) (vm (ii (i64.wrap (1+i64.wrap (Int.tmod (u8.wrap (Int.tdiv a3 3)) 3)))) (vr (aO z z) (vr (bV z z) (vr (cg z z) (nl ?_)))))))))
    refine aE E z (fun c3 E=>?_) (fun c3 E=>?_)
    ·refine aH (vm (iu a4) (vr (fg z z (by decide)) (vr (cD z Tryz.underlying5 Tryz.underlying3) (va (ii (i64.wrap (Int.tmod a4 7))) (aK ?_)))))
     exact⟨k4,_,_,aI _,E,aD ⟨z,z,z,z,z,z,z,z,z,z,trivial⟩,H⟩
    ·refine aA ?_
     exact⟨k4,_,_,aI _,E,aD ⟨z,z,z,z,z,z,z,z,z,z,trivial⟩,H⟩
   rintro t w ⟨k5,x22,t6,hk4,E,rfl,H⟩
   unfold cw.j2 at E
   refine cA (fun t w=>∃(k6:Nat)(x23:ByteArray)(t7:Fr),k6≤k5∧cw.j3 (cw.l1 k6) k6 a3 a4 x8 x9 x20 x22 x23=some r∧t=aU t7 [(4,iu a4),(12,.bool false),(16,ii (i64.wrap (1+i64.wrap (Int.tmod a3 3)))),(17,ii (i64.wrap (1+i64.wrap (Int.tmod (u8.wrap (Int.tdiv a3 3)) 3)))),(18,.string x8),(19,.string x9),(22,.string x23),(23,ii x20),(24,ii x22),(1000000,undef)]∧St (Rs.env).fp w0 w [.gt,.lv,.blk b3 #[ii x1.1,ii x1.2.1,ii x1.2.2] 24,.own (.int .u8) 5 v6 x4,.own (.int .u8) 5 v9 x7.1]) ?_ ?_
   ·refine rg (vm (ii x20) (vr (dy z z) (nl ?_)))
    refine aE E z (fun c4 E=>?_) (fun c4 E=>?_)
    ·refine aH (vm (.string x19) ?_)
     obtain⟨g27,E⟩:=ar E
     refine vr (cJ z z g27) (va (.string (cat x19 fu)) (aK ?_))
     exact⟨k5,_,_,aI _,E,aD ⟨z,z,z,z,z,z,z,z,z,z,trivial⟩,H⟩
    ·refine aA ?_
     exact⟨k5,_,_,aI _,E,aD ⟨z,z,z,z,z,z,z,z,z,z,trivial⟩,H⟩
   rintro t w ⟨k6,x23,t7,hk5,E,rfl,H⟩
   unfold cw.j3 at E
   refine aH (vm (.string x23) (vm (ii x22) ?_))
   obtain⟨x24,E10,E⟩:=ay E
   refine ye (au vR z ((strconv_Itoa.calls (H.Gt 1 z) E10).mono ?_))
   rintro _ w ⟨rfl,K⟩
   have H:=H.aV 1 z K
   refine⟨_,z,?_⟩
   obtain⟨g28,E⟩:=ar E
   refine vr (cJ z z g28) (va (.string (cat x23 x24)) (aK (aR (ab (aH (vm (ii x20) (vr (aO z z) (va (ii (i64.wrap (x20+1))) (aK ?_)))))))))
   exact⟨k6,by omega,_,_,_,by omega,E,aD ⟨z,z,z,z,z,z,z,z,z,trivial⟩,H⟩
  ·refine bt (aM (aM (bu ?_)))
   exact⟨k4,_,_,by omega,E,aD ⟨z,z,z,z,z,trivial⟩,H⟩
 rintro t w ⟨k3,x18,t4,hk6,E,rfl,H⟩
 unfold cw.j1 at E
 refine rg ?_
 obtain⟨x25,E12,E⟩:=ay E
 refine ye (au Ka z ((pP.calls (sV (H.Gt 0 z) (H.Gt 1 z)) E12).mono ?_))
 rintro _ w ⟨rfl,K⟩
 have H:=H.sC 0 1 z z (by decide) K
 refine⟨_,z,(vm (.bool x25) ?_)⟩
 rcases bR (x25)with c5|c5
 ·have E:=iT c5 E
  refine oo c5 z (mv (.string x8) z) ?_
  obtain⟨g29,E⟩:=ar E
  refine oo c5 z (cJ z z g29) ?_
  obtain⟨x26,E13,E⟩:=ay E
  refine dP z c5 z (au vS z ((bg.calls (sV (H.Gt 0 z) (H.Gt 1 z)) E13).mono ?_))
  rintro _ w ⟨rfl,K⟩
  have H:=H.sC 0 1 z z (by decide) K
  refine⟨_,z,oo c5 z (mv (.string x9) z) (oo c5 z (mv (.string x18) z) ?_)⟩
  obtain⟨g30,E⟩:=ar E
  refine oo c5 z (cJ z z g30) ?_
  obtain⟨g31,E⟩:=ar E
  refine oo c5 z (cJ z z g31) (oo c5 z (ov z z) (vr (pT (.bool (decide (x26=cat (cat x9 x18) fE))) z z c5) (va (.bool (decide (x26=cat (cat x9 x18) fE))) (nl (aj ?_)))))
  cases E
  exact⟨.inl z,_,tk0 z ⟨aB z (ad ai),z,H.bN 0 1 z z z⟩⟩
 ·have E:=iF c5 E
  refine ow c5 z (ow c5 z (ow c5 z (ow c5 z (ow c5 z (ow c5 z (ow c5 z (ow c5 z (vr (pF (.bool false) z z c5) (va (.bool false) (nl (aj ?_)))))))))))
  cases E
  exact⟨.inl z,_,tk0 z ⟨aB z (ad ai),z,H.bN 0 1 z z z⟩⟩
end Go.Proofs.YtmhkpafkadijgaaGreatDoor.Gw
