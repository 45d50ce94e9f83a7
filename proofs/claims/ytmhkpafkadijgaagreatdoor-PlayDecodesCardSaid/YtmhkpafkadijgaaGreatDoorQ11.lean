/- A part of the proof of Rows.PlayDecodesCardSaid; the conditions are that card's own. -/
import Derived.Test.YtmhkpafkadijgaaGreatDoorQ10
set_option linter.all false
set_option maxRecDepth 100000
set_option maxHeartbeats 4000000
namespace Go.Proofs.YtmhkpafkadijgaaGreatDoor.Gw
open Go.IntKind renaming wrap→I,i64→W
open Go Go.RowKit
variable[de]
open Go.IntKind (i8 i16 i32 i64 u8 u16 u32 u64)
open Tryz hiding prog
open Tryz renaming prog → aa
variable{w0:World}{k:Nat}{F_:FD}{v0_ v1_ v2_:Value}
theorem fO:Sl aa 22 5 1 1 (iu 0):=ja underlying22 d_ z f_
theorem lJ:sw .u64 aa 468 8:=K_
theorem jQ:((#[22]:Array TypeId)[0]?).bind Tryz.prog.underlying=some (.slice 5):=iD underlying22
theorem Mr:Sc aa 5:=⟨_,underlying5,z⟩
theorem pX:Tryz.prog.follows .mixedOrders=true:=d_
theorem n0:Ar aa 468 8 1:=⟨_,underlying468,d_⟩
theorem mP:Sc aa 160:=⟨_,underlying160,z⟩
theorem tM:Sz aa 160 1:=K_
theorem gO:Ag aa 468 8:=⟨_,underlying468,z,d_⟩
theorem jl:Sz aa 468 8:=K_
theorem oa:Ar aa 474 15 1:=⟨_,underlying474,d_⟩
theorem BJ:sw .u64 aa 474 15:=K_
theorem BG:Ag aa 474 15:=⟨_,underlying474,z,d_⟩
theorem BH:En aa 436:=⟨_,_,func436,d_,z⟩
theorem mO:En aa 431:=⟨_,_,func431,d_,z⟩
theorem tK:En aa 433:=⟨_,_,func433,d_,z⟩
theorem tL:En aa 434:=⟨_,_,func434,d_,z⟩
theorem wq:En aa 432:=⟨_,_,func432,d_,z⟩
theorem Ms:Sz aa 5 1:=K_
theorem Mt:Zr aa 22 #[sn]:=⟨.slice none 0 0,d_,z⟩
theorem BI:Sz aa 22 1:=K_
theorem Mo:En aa 181:=⟨_,_,func181,d_,z⟩
theorem wx:Sc aa 3:=⟨_,underlying3,z⟩
theorem mQ:Sc aa 22:=⟨_,underlying22,z⟩
theorem Mp:En aa 435:=⟨_,_,func435,d_,z⟩
mutual
def cY.l0:Nat→List Int→List Int→Int→Option (List Int)
 |0,_,_,_=>none
 |k+1,a0,l1,x1=>bif decide (x1<(((a0.take ((min2 (a0.length:Int) 64).toNat)).drop 0).length:Int))then(an (decide ((0:Int)≤x1∧x1<(((a0.take ((min2 (a0.length:Int) 64).toNat)).drop 0).length:Int))) (cY.l1 k a0 x1 l1 0))else(an (decide (l1.length=8)) (some l1))
def cY.l1:Nat→List Int→Int→List Int→Int→Option (List Int)
 |0,_,_,_,_=>none
 |k+1,a0,x1,l2,x2=>bif decide (x2<8)then(an (decide ((0:Int)≤x2∧x2<8)) (an (decide (0≤x2)) (an (decide (0≤x1)) (an (decide ((0:Int)≤x2∧x2<8)) (cY.l1 k a0 x1 (l2.set x2.toNat (bits .or .u64 (at_ 0 l2 x2) (u64.wrap (u64.wrap (bits .and .u8 (Int.fdiv (at_ 0 ((a0.take ((min2 (a0.length:Int) 64).toNat)).drop 0) x1) (2^min x2.toNat 8)) 1)*2^min x1.toNat 64)))) (I W (x2+1)))))))else(cY.l0 k a0 l2 (I W (x1+1)))
end
def cY.f(k:Nat)(a0:List Int):Option (List Int):=an (decide ((0:Int)≤min2 (a0.length:Int) 64∧min2 (a0.length:Int) 64≤(a0.length:Int))) (cY.l0 k a0 (List.replicate 8 (0:Int)) 0)
theorem cY.calls{a0:List Int}{r:List Int}(h0:Zf no w0 v0_ a0)(E:cY.f k a0=some r):
 Calls aa 431 #[v0_] w0 fun e w'=>e= .returned (.agg (r.map (Value.int .u64)).toArray)∧St no w0 w' []:=by
 have H:=St.nil no w0
 unfold cY.f at E
 refine Zb func431 ?_
 refine rg (ye (kJ (n:=8) lJ H (fun b1 w H=>nl (rg (ye (kJ (n:=8) lJ H (fun b2 w H=>A_ ?_)))))))
 obtain⟨⟨g3,g4⟩,E⟩:=ar E
 have p6:0≤(min2 (a0.length:Int) 64).toNat:=a_
 have p7:(min2 (a0.length:Int) 64).toNat≤a0.length:=a_
 refine vr (fU fO (H.rd h0) z z g3 g4) (vr (aY jQ (Rd.bz (H.rd h0) p6 p7) z) (A_ ?_))
 refine bx (fun kk t w=>∃(l1:List Int)(x1:Int)(t1:Fr),kk≤k∧cY.l0 kk a0 l1 x1=some r∧t=aU t1 [(2,pt b1),(3,pt b2),(11,bz v0_ 0 ((min2 (a0.length:Int) 64).toNat) 1),(12,ii (((a0.take ((min2 (a0.length:Int) 64).toNat)).drop 0).length:Int)),(13,ii x1),Zc]∧St no w0 w [.own (.int .u64) 468 (.slice (some ⟨b1,0,none⟩) 8 8) (List.replicate 8 (0:Int)),.own (.int .u64) 468 (.slice (some ⟨b2,0,none⟩) 8 8) l1]) k Ze ?_
 rintro kk t w ⟨l1,x1,t1,hk1,E,rfl,H⟩
 obtain⟨k1,rfl⟩:=Zd kk
 rw[cY.l0]at E
 refine A_ ?_
 refine aE E z ?_ ?_<;>intro c1 E<;>refine A_ ?_
 ·obtain⟨⟨g1,g2⟩,E⟩:=ar E
  refine vr (bo fO (Rd.bz (H.rd h0) p6 p7) z z g1 g2) (vr (bq Mr (Rd.bz (H.rd h0) p6 p7) g1 g2 z) (A_ ?_))
  refine bx (fun kk t w=>∃(l2:List Int)(x2:Int)(t2:Fr),kk≤k1∧cY.l1 kk a0 x1 l2 x2=some r∧t=aU t2 [(2,pt b1),(3,pt b2),(4,ii x1),(5,iu (at_ 0 ((a0.take ((min2 (a0.length:Int) 64).toNat)).drop 0) x1)),(11,bz v0_ 0 ((min2 (a0.length:Int) 64).toNat) 1),(12,ii (((a0.take ((min2 (a0.length:Int) 64).toNat)).drop 0).length:Int)),(13,ii x1),(18,ii x2),Zc]∧St no w0 w [.own (.int .u64) 468 (.slice (some ⟨b1,0,none⟩) 8 8) (List.replicate 8 (0:Int)),.own (.int .u64) 468 (.slice (some ⟨b2,0,none⟩) 8 8) l2]) k1 Ze ?_
  rintro kk t w ⟨l2,x2,t2,hk2,E,rfl,H⟩
  obtain⟨k2,rfl⟩:=Zd kk
  rw[cY.l1]at E
  refine A_ ?_
  refine aE E z ?_ ?_<;>intro c2 E<;>refine A_ ?_
  ·refine cd (ds:=[12]) pX H z z ?_
   have H:=H.drew
   refine B_ [0] H ?_
   obtain⟨⟨g5,g6⟩,E⟩:=ar E
   refine wg 1 z H (dm n0 z z g5 g6) (wz 2 z H (fun w H=>bq mP (ao (H.Gt 1 z)) g5 (jB (H.Gt 1 z) g6) z) (B_ [3,4] H ?_))
   obtain⟨g7,E⟩:=ar E
   refine B_ [5,6,7,8] H ?_
   obtain⟨g8,E⟩:=ar E
   refine B_ [9,10] H ?_
   obtain⟨⟨g9,g10⟩,E⟩:=ar E
   refine wg 11 z H (dm n0 z z g9 g10) (wo 12 z (dc tM H 1 z g9 (jB (H.Gt 1 z) g10) z z (fun w H=>⟨fun h=>(h f_).elim,wd (A_ ?_)⟩)))
   exact⟨k2,bL _,_,_,_,bK hk2,E,Za,H⟩
  exact⟨k2,a_,_,_,_,a_,E,Za,H⟩
 refine vr (jq gO (H.Gt 1 z) z) ?_
 obtain⟨g11,E⟩:=ar E
 refine s_ (jz jl H 0 z g11 z z (fun w H=>A_ ?_))
 cases E
 exact⟨.inl z,_,tk0 z ⟨aB z (dL z gO (oV (H.Gt 0 z)) (by rw[x_];exact ns (H.Gt 0 z)) ai),z,H.bs⟩⟩
mutual
def fc.l0:Nat→List Int→Int→Option (List Int)
 |0,_,_=>none
 |k+1,l1,x1=>bif decide (x1<8)then(an (decide ((l1.take 8).length=8)) (some (l1.take 8)))else(fc.l1 k x1 l1 0)
def fc.l1:Nat→Int→List Int→Int→Option (List Int)
 |0,_,_,_=>none
 |k+1,x1,l2,x2=>bif decide (x2<8)then(an (decide (0≤x2)) (bif decide (bits .and .i64 (Int.fdiv 285 (2^min x2.toNat 64)) 1=1)then(an (decide ((0:Int)≤I W (I W (x1-8)+x2)∧I W (I W (x1-8)+x2)<15)) (an (decide ((0:Int)≤x1∧x1<15)) (an (decide ((0:Int)≤I W (I W (x1-8)+x2)∧I W (I W (x1-8)+x2)<15)) (fc.l1 k x1 (l2.set (I W (I W (x1-8)+x2)).toNat (bits .xor .u64 (at_ 0 l2 (I W (I W (x1-8)+x2))) (at_ 0 l2 x1))) (I W (x2+1))))))else(fc.l1 k x1 l2 (I W (x2+1)))))else(fc.l0 k l2 (I W (x1-1)))
end
def fc.f(k:Nat)(a0:List Int):Option (List Int):=an (decide (a0.length=15)) (fc.l0 k a0 14)
theorem fc.calls{a0 r:List Int}(E:fc.f k a0=some r):
 Calls aa 436 #[.agg (a0.map (Value.int .u64)).toArray] w0 fun e w'=>e= .returned (.agg (r.map (Value.int .u64)).toArray)∧St no w0 w' []:=by
 have H:=St.nil no w0
 unfold fc.f at E
 refine Zb func436 ?_
 refine rg ?_
 obtain⟨g2,E⟩:=ar E
 refine ye (qu H z g2 (fun b1 w H=>ye (kJ (n:=8) lJ H (fun b3 w H=>nl (xR (A_ ?_))))))
 refine xP (A_ ?_)
 refine bx (fun kk t w=>∃(l1:List Int)(x1:Int)(t1:Fr),kk≤k∧fc.l0 kk l1 x1=some r∧t=aU t1 [(1,pt b1),(2,pt b3),(3,ii x1),Zc]∧St no w0 w [.own (.int .u64) 474 (.slice (some ⟨b1,0,none⟩) 15 15) l1,.own (.int .u64) 468 (.slice (some ⟨b3,0,none⟩) 8 8) (List.replicate 8 (0:Int))]) k Ze ?_
 rintro kk t w ⟨l1,x1,t1,hk1,E,rfl,H⟩
 obtain⟨k1,rfl⟩:=Zd kk
 rw[fc.l0]at E
 refine A_ ?_
 refine aE E z ?_ ?_<;>intro c1 E
 ·refine bt (aM (qs z (A_ ?_)))
  refine vr (bJ (OM oa z z f_ f_) (v':=.slice (some ⟨b1,0,none⟩) 8 15) z) (vr (OI n0 z z z) (vr (OD gO z (H.Gt 0 z) z) ?_))
  obtain⟨g1,E⟩:=ar E
  refine s_ (jz jl H 1 z g1 z z (fun w H=>A_ ?_))
  cases E
  exact(xl ⟨.inl z,_,tk0 z ⟨aB z (dL z gO (oV (H.Gt 1 z)) aaZ ai),z,H.bs⟩⟩)
 refine A_ ?_
 refine bx (fun kk t w=>∃(l2:List Int)(x2:Int)(t2:Fr),kk≤k1∧fc.l1 kk x1 l2 x2=some r∧t=aU t2 [(1,pt b1),(2,pt b3),(3,ii x1),(7,ii x2),Zc]∧St no w0 w [.own (.int .u64) 474 (.slice (some ⟨b1,0,none⟩) 15 15) l2,.own (.int .u64) 468 (.slice (some ⟨b3,0,none⟩) 8 8) (List.replicate 8 (0:Int))]) k1 Ze ?_
 rintro kk t w ⟨l2,x2,t2,hk2,E,rfl,H⟩
 obtain⟨k2,rfl⟩:=Zd kk
 rw[fc.l1]at E
 refine A_ ?_
 refine aE E z ?_ ?_<;>intro c2 E<;>refine A_ ?_
 ·obtain⟨g3,E⟩:=ar E
  refine A_ ?_
  refine aE E z ?_ ?_<;>intro c3 E
  ·refine cd (ds:=[11]) pX H z z ?_
   have H:=H.drew
   refine B_ [0,1,2,3] H ?_
   obtain⟨⟨g4,g5⟩,E⟩:=ar E
   refine wg 4 z H (dm oa z z g4 g5) (wz 5 z H (fun w H=>bq mP (ao (H.Gt 0 z)) g4 (jB (H.Gt 0 z) g5) z) (B_ [6] H ?_))
   obtain⟨⟨g6,g7⟩,E⟩:=ar E
   refine wg 7 z H (dm oa z z g6 g7) (wz 8 z H (fun w H=>bq mP (ao (H.Gt 0 z)) g6 (jB (H.Gt 0 z) g7) z) (B_ [9] H ?_))
   obtain⟨⟨g8,g9⟩,E⟩:=ar E
   refine wg 10 z H (dm oa z z g8 g9) (wo 11 z (dc tM H 0 z g8 (jB (H.Gt 0 z) g9) z z (fun w H=>⟨fun h=>(h f_).elim,wd (A_ ?_)⟩)))
   exact⟨k2,bL _,_,_,_,bK hk2,E,Za,H⟩
  refine A_ ?_
  exact⟨k2,bL _,_,_,_,bK hk2,E,Za,H⟩
 exact⟨k2,a_,_,_,_,a_,E,Za,H⟩
mutual
def ew.l0:Nat→List Int→List Int→List Int→Int→Option (List Int)
 |0,_,_,_,_=>none
 |k+1,a0,a1,l1,x1=>bif decide (x1<8)then(ew.l1 k a0 a1 x1 l1 0)else((fc.f k l1).bind fun x2=>an (decide (x2.length=8)) (some x2))
def ew.l1:Nat→List Int→List Int→Int→List Int→Int→Option (List Int)
 |0,_,_,_,_,_=>none
 |k+1,a0,a1,x1,l2,x3=>bif decide (x3<8)then(an (decide ((0:Int)≤I W (x1+x3)∧I W (x1+x3)<15)) (an (decide ((0:Int)≤x1∧x1<8)) (an (decide ((0:Int)≤x3∧x3<8)) (an (decide ((0:Int)≤I W (x1+x3)∧I W (x1+x3)<15)) (ew.l1 k a0 a1 x1 (l2.set (I W (x1+x3)).toNat (bits .xor .u64 (at_ 0 l2 (I W (x1+x3))) (bits .and .u64 (at_ 0 a0 x1) (at_ 0 a1 x3)))) (I W (x3+1)))))))else(ew.l0 k a0 a1 l2 (I W (x1+1)))
end
def ew.f(k:Nat)(a0 a1:List Int):Option (List Int):=an (decide (a0.length=8)) (an (decide (a1.length=8)) (ew.l0 k a0 a1 (List.replicate 15 (0:Int)) 0))
theorem ew.calls{a0 a1 r:List Int}(E:ew.f k a0 a1=some r):
 Calls aa 433 #[.agg (a0.map (Value.int .u64)).toArray,.agg (a1.map (Value.int .u64)).toArray] w0 fun e w'=>e= .returned (.agg (r.map (Value.int .u64)).toArray)∧St no w0 w' []:=by
 have H:=St.nil no w0
 unfold ew.f at E
 refine Zb func433 ?_
 refine rg ?_
 obtain⟨g2,E⟩:=ar E
 refine ye (qu H z g2 (fun b1 w H=>?_))
 obtain⟨g4,E⟩:=ar E
 refine ye (qu H z g4 (fun b3 w H=>ye (kJ (n:=8) lJ H (fun b5 w H=>nl (rg (ye (kJ (n:=15) BJ H (fun b6 w H=>A_ ?_))))))))
 refine bx (fun kk t w=>∃(l1:List Int)(x1:Int)(t1:Fr),kk≤k∧ew.l0 kk a0 a1 l1 x1=some r∧t=aU t1 [(2,pt b1),(3,pt b3),(4,pt b5),(5,pt b6),(8,ii x1),Zc]∧St no w0 w [.own (.int .u64) 468 (.slice (some ⟨b1,0,none⟩) 8 8) a0,.own (.int .u64) 468 (.slice (some ⟨b3,0,none⟩) 8 8) a1,.own (.int .u64) 468 (.slice (some ⟨b5,0,none⟩) 8 8) (List.replicate 8 (0:Int)),.own (.int .u64) 474 (.slice (some ⟨b6,0,none⟩) 15 15) l1]) k Ze ?_
 rintro kk t w ⟨l1,x1,t1,hk1,E,rfl,H⟩
 obtain⟨k1,rfl⟩:=Zd kk
 rw[ew.l0]at E
 refine A_ ?_
 refine aE E z ?_ ?_<;>intro c1 E<;>refine A_ ?_
 ·refine bx (fun kk t w=>∃(l2:List Int)(x2:Int)(t2:Fr),kk≤k1∧ew.l1 kk a0 a1 x1 l2 x2=some r∧t=aU t2 [(2,pt b1),(3,pt b3),(4,pt b5),(5,pt b6),(6,ii x1),(8,ii x1),(11,ii x2),Zc]∧St no w0 w [.own (.int .u64) 468 (.slice (some ⟨b1,0,none⟩) 8 8) a0,.own (.int .u64) 468 (.slice (some ⟨b3,0,none⟩) 8 8) a1,.own (.int .u64) 468 (.slice (some ⟨b5,0,none⟩) 8 8) (List.replicate 8 (0:Int)),.own (.int .u64) 474 (.slice (some ⟨b6,0,none⟩) 15 15) l2]) k1 Ze ?_
  rintro kk t w ⟨l2,x2,t2,hk2,E,rfl,H⟩
  obtain⟨k2,rfl⟩:=Zd kk
  rw[ew.l1]at E
  refine A_ ?_
  refine aE E z ?_ ?_<;>intro c2 E<;>refine A_ ?_
  ·refine cd (ds:=[14]) pX H z z ?_
   have H:=H.drew
   refine B_ [0,1,2] H ?_
   obtain⟨⟨g1,g3⟩,E⟩:=ar E
   refine wg 3 z H (dm oa z z g1 g3) (wz 4 z H (fun w H=>bq mP (ao (H.Gt 3 z)) g1 (jB (H.Gt 3 z) g3) z) (B_ [5] H ?_))
   obtain⟨⟨g5,g6⟩,E⟩:=ar E
   refine wg 6 z H (dm n0 z z g5 g6) (wz 7 z H (fun w H=>bq mP (ao (H.Gt 0 z)) g5 (jB (H.Gt 0 z) g6) z) (B_ [8] H ?_))
   obtain⟨⟨g7,g8⟩,E⟩:=ar E
   refine wg 9 z H (dm n0 z z g7 g8) (wz 10 z H (fun w H=>bq mP (ao (H.Gt 1 z)) g7 (jB (H.Gt 1 z) g8) z) (B_ [11,12] H ?_))
   obtain⟨⟨g9,g10⟩,E⟩:=ar E
   refine wg 13 z H (dm oa z z g9 g10) (wo 14 z (dc tM H 3 z g9 (jB (H.Gt 3 z) g10) z z (fun w H=>⟨fun h=>(h f_).elim,wd (A_ ?_)⟩)))
   exact⟨k2,bL _,_,_,_,bK hk2,E,Za,H⟩
  exact⟨k2,a_,_,_,_,a_,E,Za,H⟩
 refine vr (jq BG (H.Gt 3 z) z) ?_
 refine ye (E9 BH H E (fun _=>fc.calls) (fun x3 E w H=>?_))
 obtain⟨g11,E⟩:=ar E
 refine s_ (jz jl H 2 z g11 z z (fun w H=>A_ ?_))
 cases E
 exact⟨.inl z,_,tk0 z ⟨aB z (dL z gO (oV (H.Gt 2 z)) (by rw[x_];exact ns (H.Gt 2 z)) ai),z,H.bs⟩⟩
def fF.l0:Nat→List Int→Int→Int→Int→Option (Int)
 |0,_,_,_,_=>none
 |k+1,a0,a1,x1,x2=>bif decide (x2<8)then(an (decide ((0:Int)≤x2∧x2<8)) (an (decide (0≤a1)) (an (decide (0≤x2)) (fF.l0 k a0 a1 (bits .or .u8 x1 (u8.wrap (u8.wrap (bits .and .u64 (Int.fdiv (at_ 0 a0 x2) (2^min a1.toNat 64)) 1)*2^min x2.toNat 8))) (I W (x2+1))))))else(some x1)
def fF.f(k:Nat)(a0:List Int)(a1:Int):Option (Int):=an (decide (a0.length=8)) (bif decide (a1<0)then(some 0)else(bif decide (64≤a1)then(some 0)else(fF.l0 k a0 a1 0 0)))
theorem fF.calls{a0:List Int}{a1 r:Int}(E:fF.f k a0 a1=some r):
 Calls aa 434 #[.agg (a0.map (Value.int .u64)).toArray,ii a1] w0 fun e w'=>e= .returned (iu r)∧St no w0 w' []:=by
 have H:=St.nil no w0
 unfold fF.f at E
 refine Zb func434 ?_
 refine rg ?_
 obtain⟨g2,E⟩:=ar E
 refine ye (qu H z g2 (fun b1 w H=>A_ ?_))
 rcases bR (decide (a1<0))with c5|c5
 ·have E:=iT c5 E
  refine A_ ?_
  cases E
  exact(aL ⟨.inl z,_,tk0 z ⟨aB z (ad ai),z,H.bs⟩⟩)
 have E:=iF c5 E
 refine A_ ?_
 refine aE E z ?_ ?_<;>intro c6 E<;>refine A_ ?_
 ·cases E
  exact(aL ⟨.inl z,_,tk0 z ⟨aB z (ad ai),z,H.bs⟩⟩)
 refine bx (fun kk t w=>∃(x1 x2:Int)(t1:Fr),kk≤k∧fF.l0 kk a0 a1 x1 x2=some r∧t=aU t1 [(1,ii a1),(2,pt b1),(4,iu 0),(5,iu x1),(13,ii x2),Zc]∧St no w0 w [.own (.int .u64) 468 (.slice (some ⟨b1,0,none⟩) 8 8) a0]) k Ze ?_
 rintro kk t w ⟨x1,x2,t1,hk1,E,rfl,H⟩
 obtain⟨k18,rfl⟩:=Zd kk
 rw[fF.l0]at E
 refine A_ ?_
 refine aE E z ?_ ?_<;>intro c1 E<;>refine A_ ?_
 ·obtain⟨⟨g1,g3⟩,E⟩:=ar E
  refine vr (dm n0 z z g1 g3) (vr (bq mP (ao (H.Gt 0 z)) g1 (jB (H.Gt 0 z) g3) z) (A_ ?_))
  obtain⟨g4,E⟩:=ar E
  refine A_ ?_
  obtain⟨g5,E⟩:=ar E
  refine A_ ?_
  exact⟨k18,bL _,_,_,_,bK hk1,E,Za,H⟩
 cases E
 exact⟨.inl z,_,tk0 z ⟨aB z (ad ai),z,H.bs⟩⟩
def nK.f(k:Nat)(a1 a2:Int):Option (Int):=(cY.f k ([a1])).bind fun x3=>(cY.f k ([a2])).bind fun x6=>(ew.f k x3 x6).bind fun x8=>(fF.f k x8 0).bind fun x1=>some x1
theorem nK.calls{a1 a2 r:Int}(E:nK.f k a1 a2=some r):
 Calls aa 428 #[.agg #[],iu a1,iu a2] w0 fun e w'=>e= .returned (iu r)∧St no w0 w' []:=by
 have H:=St.nil no w0
 unfold nK.f at E
 refine Zb func428 ?_
 refine rg (ye (bc (cs:=#[]) H z (fun b1 w H=>A_ ?_)))
 refine ye (cL (e:=(.int .u8)) (l:=[a1]) fO H z f_ ⟨z,z,acu⟩ f_ (fun v2 w H=>?_))
 refine ye (E9 mO H E (fun _=>cY.calls (H.own 1 z (ao (H.Gt 1 z)))) (fun x3 E w H=>vm (iu a2) (ye (cL (e:=(.int .u8)) (l:=[a2]) fO H z f_ ⟨z,z,acu⟩ f_ (fun v5 w H=>?_)))))
 refine ye (E9 mO H E (fun _=>cY.calls (H.own 2 z (ao (H.Gt 2 z)))) (fun x6 E w H=>?_))
 have H:St _ _ _ [_,_,_]:=H
 refine ye (E9 tK H E (fun _=>ew.calls) (fun x8 E w H=>?_))
 refine ye (E9 tL H E (fun _=>fF.calls) (fun x1 E w H=>A_ ?_))
 cases E
 exact⟨.inl z,_,tk0 z ⟨aB z (ad ai),z,H.bs⟩⟩
def gv.l0:Nat→List Int→List Int→Int→Option (List Int)
 |0,_,_,_=>none
 |k+1,a0,l9,x1=>bif decide (x1<8)then(an (decide ((0:Int)≤x1∧x1<8)) (an (decide ((0:Int)≤I W (2*x1)∧I W (2*x1)<15)) (gv.l0 k a0 (l9.set (I W (2*x1)).toNat (at_ 0 a0 x1)) (I W (x1+1)))))else((fc.f k l9).bind fun x2=>an (decide (x2.length=8)) (some x2))
def gv.f(k:Nat)(a0:List Int):Option (List Int):=an (decide (a0.length=8)) (gv.l0 k a0 (List.replicate 15 (0:Int)) 0)
theorem gv.calls{a0 r:List Int}(E:gv.f k a0=some r):
 Calls aa 432 #[.agg (a0.map (Value.int .u64)).toArray] w0 fun e w'=>e= .returned (.agg (r.map (Value.int .u64)).toArray)∧St no w0 w' []:=by
 have H:=St.nil no w0
 unfold gv.f at E
 refine Zb func432 ?_
 refine rg ?_
 obtain⟨g2,E⟩:=ar E
 refine ye (qu H z g2 (fun b1 w H=>ye (kJ (n:=8) lJ H (fun b3 w H=>nl (rg (ye (kJ (n:=15) BJ H (fun b4 w H=>A_ ?_))))))))
 refine bx (fun kk t w=>∃(l9:List Int)(x1:Int)(t1:Fr),kk≤k∧gv.l0 kk a0 l9 x1=some r∧t=aU t1 [(1,pt b1),(2,pt b3),(3,pt b4),(5,ii x1),Zc]∧St no w0 w [.own (.int .u64) 468 (.slice (some ⟨b1,0,none⟩) 8 8) a0,.own (.int .u64) 468 (.slice (some ⟨b3,0,none⟩) 8 8) (List.replicate 8 (0:Int)),.own (.int .u64) 474 (.slice (some ⟨b4,0,none⟩) 15 15) l9]) k Ze ?_
 rintro kk t w ⟨l9,x1,t1,hk1,E,rfl,H⟩
 obtain⟨k17,rfl⟩:=Zd kk
 rw[gv.l0]at E
 refine A_ ?_
 refine aE E z ?_ ?_<;>intro c1 E<;>refine A_ ?_
 ·obtain⟨⟨g1,g3⟩,E⟩:=ar E
  refine vr (dm n0 z z g1 g3) (vr (bq mP (ao (H.Gt 0 z)) g1 (jB (H.Gt 0 z) g3) z) ?_)
  obtain⟨⟨g4,g5⟩,E⟩:=ar E
  refine vr (dm oa z z g4 g5) (s_ (dc tM H 2 z g4 (jB (H.Gt 2 z) g5) z z (fun w H=>A_ ?_)))
  exact⟨k17,bL _,_,_,_,bK hk1,E,Za,H⟩
 refine vr (jq BG (H.Gt 2 z) z) ?_
 refine ye (E9 BH H E (fun _=>fc.calls) (fun x2 E w H=>?_))
 obtain⟨g6,E⟩:=ar E
 refine s_ (jz jl H 1 z g6 z z (fun w H=>A_ ?_))
 cases E
 exact⟨.inl z,_,tk0 z ⟨aB z (dL z gO (oV (H.Gt 1 z)) aaZ ai),z,H.bs⟩⟩
def ft.j0(k:Nat)(l1 l2:List Int):Option (Int×Bool):=(fF.f k l2 0).bind fun x1=>some (x1,true)
def ft.l0:Nat→List Int→List Int→Int→Option (Int×Bool)
 |0,_,_,_=>none
 |k+1,l1,l2,x1=>bif decide (x1<7)then((gv.f k l1).bind fun x2=>an (decide (x2.length=8)) ((ew.f k l2 x2).bind fun x3=>an (decide (x3.length=8)) (ft.l0 k x2 x3 (I W (x1+1)))))else(ft.j0 k l1 l2)
def ft.f(k:Nat)(a1:Int):Option (Int×Bool):=bif decide (a1=0)then(some (0,false))else((cY.f k ([a1])).bind fun x5=>an (decide (x5.length=8)) ((cY.f k ([1])).bind fun x1=>an (decide (x1.length=8)) (ft.l0 k x5 x1 0)))
theorem ft.calls{a1:Int}{r:Int×Bool}(E:ft.f k a1=some r):
 Calls aa 427 #[.agg #[],iu a1] w0 fun e w'=>e= .returned (.tuple #[iu r.1,.bool r.2])∧St no w0 w' []:=by
 have H:=St.nil no w0
 unfold ft.f at E
 refine Zb func427 ?_
 refine rg (ye (bc (cs:=#[]) H z (fun b1 w H=>A_ ?_)))
 refine aE E z ?_ ?_<;>intro c3 E<;>refine A_ ?_
 ·cases E
  exact(aL ⟨.inl z,_,tk0 z ⟨aB z (ad (ad ai)),z,H.bs⟩⟩)
 refine ye (cL (e:=(.int .u8)) (l:=[a1]) fO H z f_ ⟨z,z,acu⟩ f_ (fun v4 w H=>?_))
 refine ye (E9 mO H E (fun _=>cY.calls (H.own 1 z (ao (H.Gt 1 z)))) (fun x5 E w H=>ye (kJ (n:=8) lJ H (fun b7 w H=>?_))))
 obtain⟨g8,E⟩:=ar E
 refine s_ (jz jl H 2 z g8 z z (fun w H=>A_ ?_))
 have H:St _ _ _ [_,_,_]:=H
 refine ye (cL (e:=(.int .u8)) (l:=[1]) fO H z f_ ⟨z,z,acu⟩ f_ (fun v9 w H=>?_))
 refine ye (E9 mO H E (fun _=>cY.calls (H.own 3 z (ao (H.Gt 3 z)))) (fun x1 E w H=>ye (kJ (n:=8) lJ H (fun b2 w H=>?_))))
 obtain⟨g1,E⟩:=ar E
 refine s_ (jz jl H 4 z g1 z z (fun w H=>nl ?_))
 refine cA (fun t w=>∃(k1:Nat)(l1 l2:List Int)(t1:Fr),k1≤k∧ft.j0 k1 l1 l2=some r∧t=aU t1 [(4,iu 0),(5,.bool false),(7,pt b2),Zc]∧St no w0 w [.blk b1 #[] 188,Y9 v4 ([a1]),.own (.int .u64) 468 (.slice (some ⟨b7,0,none⟩) 8 8) l1,Y9 v9 ([1]),.own (.int .u64) 468 (.slice (some ⟨b2,0,none⟩) 8 8) l2]) ?_ ?_
 ·refine A_ ?_
  refine bx (fun kk t w=>∃(l3 l4:List Int)(x2:Int)(t2:Fr),kk≤k∧ft.l0 kk l3 l4 x2=some r∧t=aU t2 [(4,iu 0),(5,.bool false),(6,pt b7),(7,pt b2),(15,ii x2),Zc]∧St no w0 w [.blk b1 #[] 188,Y9 v4 ([a1]),.own (.int .u64) 468 (.slice (some ⟨b7,0,none⟩) 8 8) l3,Y9 v9 ([1]),.own (.int .u64) 468 (.slice (some ⟨b2,0,none⟩) 8 8) l4]) k Ze ?_
  rintro kk t w ⟨l3,l4,x2,t2,hk1,E,rfl,H⟩
  obtain⟨k2,rfl⟩:=Zd kk
  rw[ft.l0]at E
  refine A_ ?_
  refine aE E z ?_ ?_<;>intro c1 E<;>refine A_ ?_
  ·refine vr (jq gO (H.Gt 2 z) z) ?_
   refine ye (E9 wq H E (fun _=>gv.calls) (fun x3 E w H=>?_))
   obtain⟨g2,E⟩:=ar E
   refine s_ (jz jl H 2 z g2 z z (fun w H=>nl (aH (vr (jq gO (H.Gt 4 z) z) (vr (jq gO (H.Gt 2 z) z) ?_)))))
   refine ye (E9 tK H E (fun _=>ew.calls) (fun x4 E w H=>?_))
   obtain⟨g3,E⟩:=ar E
   refine s_ (jz jl H 4 z g3 z z (fun w H=>A_ ?_))
   exact⟨k2,bL _,_,_,_,_,bK hk1,E,Za,H⟩
  exact⟨k2,_,_,_,a_,E,Za,H⟩
 rintro t w ⟨k1,l1,l2,t1,hk2,E,rfl,H⟩
 unfold ft.j0 at E
 refine rg (vr (jq gO (H.Gt 4 z) z) ?_)
 refine ye (E9 tL H E (fun _=>fF.calls) (fun x6 E w H=>A_ ?_))
 cases E
 exact⟨.inl z,_,tk0 z ⟨aB z (ad (ad ai)),z,H.bs⟩⟩
def da.j1(l0r:List Int→List Int→Int→Option Int)(k:Nat)(a1 x1:Int):Option (Int):=(cY.f k ([a1])).bind fun x2=>(cY.f k ([1])).bind fun x3=>an (decide (x2.length=8)) (an (decide (x3.length=8)) (l0r x2 x3 x1))
def da.j0(l0r:List Int→List Int→Int→Option Int)(k:Nat)(a1 x5:Int):Option (Int):=bif decide (Int.tmod x5 255<0)then(da.j1 l0r k a1 (I W (Int.tmod x5 255+255)))else(da.j1 l0r k a1 (Int.tmod x5 255))
def da.l0:Nat→List Int→List Int→Int→Option (Int)
 |0,_,_,_=>none
 |k+1,l1,l2,x1=>bif decide (0<x1)then(bif decide (bits .and .i64 x1 1=1)then((ew.f k l2 l1).bind fun x2=>an (decide (x2.length=8)) ((gv.f k l1).bind fun x64=>an (decide (x64.length=8)) (da.l0 k x64 x2 (Int.fdiv x1 (2^min (1:Int).toNat 64)))))else((gv.f k l1).bind fun x3=>an (decide (x3.length=8)) (da.l0 k x3 l2 (Int.fdiv x1 (2^min (1:Int).toNat 64)))))else((fF.f k l2 0).bind fun x4=>some x4)
def da.f(k:Nat)(a1 a2:Int):Option (Int):=bif decide (a1=0)then(bif !decide (a2=0)then(some 0)else(da.j0 (da.l0 k) k a1 a2))else(da.j0 (da.l0 k) k a1 a2)
theorem da.calls{a1 a2 r:Int}(E:da.f k a1 a2=some r):
 Calls aa 429 #[.agg #[],iu a1,ii a2] w0 fun e w'=>e= .returned (iu r)∧St no w0 w' []:=by
 have H:=St.nil no w0
 unfold da.f at E
 refine Zb func429 ?_
 refine rg (ye (bc (cs:=#[]) H z (fun b1 w H=>J_ ?_)))
 refine cA (fun t w=>∃(k7:Nat)(x5:Int)(t6:Fr),k7≤k∧da.j0 (da.l0 k7) k7 a1 x5=some r∧t=aU t6 [(1,iu a1),(2,ii x5),(6,iu 0),Zc]∧St no w0 w [.blk b1 #[] 188]) ?_ ?_
 ·refine A_ ?_
  rcases bR (decide (a1=0))with c9|c9
  ·have E:=iT c9 E
   refine A_ ?_
   refine aE E z ?_ ?_<;>intro c1 E
   ·refine A_ ?_
    cases E
    exact(aL ⟨.inl z,_,tk0 z ⟨aB z (ad ai),z,H.bs⟩⟩)
   refine aA ?_
   exact⟨k,_,_,aI _,E,Za,H⟩
  have E:=iF c9 E
  refine A_ ?_
  exact⟨k,_,_,aI _,E,Za,H⟩
 rintro t w ⟨k7,x5,t6,hk8,E,rfl,H⟩
 unfold da.j0 at E
 refine cA (fun t w=>∃(k15:Nat)(x1:Int)(t1:Fr),k15≤k7∧da.j1 (da.l0 k15) k15 a1 x1=some r∧t=aU t1 [(1,iu a1),(2,ii x1),(6,iu 0),Zc]∧St no w0 w [.blk b1 #[] 188]) ?_ ?_
 ·refine A_ ?_
  refine aE E z ?_ ?_<;>intro c2 E
  ·refine A_ ?_
   exact⟨k7,_,_,aI _,E,Za,H⟩
  refine aA ?_
  exact⟨k7,_,_,aI _,E,Za,H⟩
 rintro t w ⟨k15,x1,t1,hk1,E,rfl,H⟩
 unfold da.j1 at E
 refine A_ ?_
 refine ye (cL (e:=(.int .u8)) (l:=[a1]) fO H z f_ ⟨z,z,acu⟩ f_ (fun v1 w H=>?_))
 refine ye (E9 mO H E (fun _=>cY.calls (H.own 1 z (ao (H.Gt 1 z)))) (fun x2 E w H=>ye (cL (e:=(.int .u8)) (l:=[1]) fO H z f_ ⟨z,z,acu⟩ f_ (fun v2 w H=>?_))))
 refine ye (E9 mO H E (fun _=>cY.calls (H.own 2 z (ao (H.Gt 2 z)))) (fun x3 E w H=>ye (kJ (n:=8) lJ H (fun b2 w H=>?_))))
 have H:St _ _ _ [_,_,_,_]:=H
 refine ye (kJ (n:=8) lJ H (fun b3 w H=>?_))
 obtain⟨g1,E⟩:=ar E
 refine s_ (jz jl H 3 z g1 z z (fun w H=>?_))
 obtain⟨g2,E⟩:=ar E
 refine s_ (jz jl H 4 z g2 z z (fun w H=>A_ ?_))
 refine bx (fun kk t w=>∃(l1 l2:List Int)(x4:Int)(t2:Fr),kk≤k15∧da.l0 kk l1 l2 x4=some r∧t=aU t2 [(2,ii x4),(6,iu 0),(7,pt b2),(8,pt b3),Zc]∧St no w0 w [.blk b1 #[] 188,Y9 v1 ([a1]),Y9 v2 ([1]),.own (.int .u64) 468 (.slice (some ⟨b2,0,none⟩) 8 8) l1,.own (.int .u64) 468 (.slice (some ⟨b3,0,none⟩) 8 8) l2]) k15 Ze ?_
 rintro kk t w ⟨l1,l2,x4,t2,hk2,E,rfl,H⟩
 obtain⟨k1,rfl⟩:=Zd kk
 rw[da.l0]at E
 refine A_ ?_
 refine aE E z ?_ ?_<;>intro c3 E<;>refine A_ ?_
 ·refine aE E z ?_ ?_<;>intro c4 E
  ·refine aH (vr (jq gO (H.Gt 4 z) z) (vr (jq gO (H.Gt 3 z) z) ?_))
   refine ye (E9 tK H E (fun _=>ew.calls) (fun x6 E w H=>?_))
   obtain⟨g3,E⟩:=ar E
   refine s_ (jz jl H 4 z g3 z z (fun w H=>nl (aH (vr (jq gO (H.Gt 3 z) z) ?_))))
   refine ye (E9 wq H E (fun _=>gv.calls) (fun x64 E w H=>?_))
   obtain⟨g4,E⟩:=ar E
   refine s_ (jz jl H 3 z g4 z z (fun w H=>A_ ?_))
   exact⟨k1,bL _,_,_,_,_,bK hk2,E,Za,H⟩
  refine aA (ab (aH (vr (jq gO (H.Gt 3 z) z) ?_)))
  refine ye (E9 wq H E (fun _=>gv.calls) (fun x7 E w H=>?_))
  obtain⟨g5,E⟩:=ar E
  refine s_ (jz jl H 3 z g5 z z (fun w H=>A_ ?_))
  exact⟨k1,bL _,_,_,_,_,bK hk2,E,Za,H⟩
 refine vr (jq gO (H.Gt 4 z) z) ?_
 refine ye (E9 tL H E (fun _=>fF.calls) (fun x8 E w H=>A_ ?_))
 cases E
 exact⟨.inl z,_,tk0 z ⟨aB z (ad ai),z,H.bs⟩⟩
def ia.l0:Nat→List Int→List (Int)→Int→Option (List Int)
 |0,_,_,_=>none
 |k+1,a0,l1,x1=>bif decide (x1<((List.replicate (64:Int).toNat (0:Int)).length:Int))then((fF.f k a0 x1).bind fun x2=>an (decide ((0:Int)≤x1∧x1<(l1.length:Int))) (ia.l0 k a0 (l1.set x1.toNat x2) (I W (x1+1))))else(some l1)
def ia.f(k:Nat)(a0:List Int):Option (List Int):=an (decide (a0.length=8)) (an (decide ((0:Int)≤64∧(64:Int)≤64∧(64:Int)≤140737488355328)) (ia.l0 k a0 (List.replicate (64:Int).toNat (0:Int)) 0))
theorem ia.calls{a0 r:List Int}(E:ia.f k a0=some r):
 Calls aa 435 #[.agg (a0.map (Value.int .u64)).toArray] w0 fun e w'=>∃(u0:Value),e= .returned (u0)∧St no w0 w' [Y9 u0 r]:=by
 have H:=St.nil no w0
 unfold ia.f at E
 refine Zb func435 ?_
 refine rg ?_
 obtain⟨g2,E⟩:=ar E
 refine ye (qu H z g2 (fun b1 w H=>A_ ?_))
 obtain⟨⟨g4,g5,g6⟩,E⟩:=ar E
 refine ye (ee (e:=(.int .u8)) (z0:=0) fO z H z z g4 g5 a_ a_ (fun v3 w H=>A_ ?_))
 refine bx (fun kk t w=>∃(l1:List Int)(x1:Int)(t1:Fr),kk≤k∧ia.l0 kk a0 l1 x1=some r∧t=aU t1 [(1,pt b1),(2,sn),(3,v3),(7,ii ((List.replicate (64:Int).toNat (0:Int)).length:Int)),(8,ii x1),Zc]∧St no w0 w [.own (.int .u64) 468 (.slice (some ⟨b1,0,none⟩) 8 8) a0,Y9 v3 l1]) k Ze ?_
 rintro kk t w ⟨l1,x1,t1,hk1,E,rfl,H⟩
 obtain⟨k21,rfl⟩:=Zd kk
 rw[ia.l0]at E
 refine A_ ?_
 refine aE E z ?_ ?_<;>intro c1 E<;>refine A_ ?_
 ·refine vr (jq gO (H.Gt 0 z) z) (A_ ?_)
  refine ye (E9 tL H E (fun _=>fF.calls) (fun x2 E w H=>?_))
  obtain⟨⟨g1,g3⟩,E⟩:=ar E
  refine A_ ?_
  refine s_ (dc Ms H 1 z g1 g3 z z (fun w H=>A_ ?_))
  exact⟨k21,bL _,_,_,_,bK hk1,E,Za,H⟩
 cases E
 exact⟨.inl z,_,tk0 z ⟨aB z (ad ai),_,z,H.bA 1 z⟩⟩
def hX.l0:Nat→List Int→List Int→List (Int)→Int→Option (List Int)
 |0,_,_,_,_=>none
 |k+1,a1,a2,l1,x1=>bif decide (x1<(a1.length:Int))then(an (decide ((0:Int)≤x1∧x1≤(a1.length:Int))) (an (decide ((0:Int)≤x1∧x1≤I W (x1+min2 64 (((a1.take a1.length).drop x1.toNat).length:Int))∧I W (x1+min2 64 (((a1.take a1.length).drop x1.toNat).length:Int))≤I W (x1+min2 64 (((a1.take a1.length).drop x1.toNat).length:Int))∧I W (x1+min2 64 (((a1.take a1.length).drop x1.toNat).length:Int))≤(a1.length:Int))) (an (decide ((0:Int)≤(l1.length:Int)∧(l1.length:Int)≤I W ((l1.length:Int)+(((a1.take ((I W (x1+min2 64 (((a1.take a1.length).drop x1.toNat).length:Int))).toNat)).drop x1.toNat).length:Int))∧I W ((l1.length:Int)+(((a1.take ((I W (x1+min2 64 (((a1.take a1.length).drop x1.toNat).length:Int))).toNat)).drop x1.toNat).length:Int))≤(a2.length:Int))) ((cY.f k ((a1.take ((I W (x1+min2 64 (((a1.take a1.length).drop x1.toNat).length:Int))).toNat)).drop x1.toNat)).bind fun x2=>(cY.f k ((a2.take ((I W ((l1.length:Int)+(((a1.take ((I W (x1+min2 64 (((a1.take a1.length).drop x1.toNat).length:Int))).toNat)).drop x1.toNat).length:Int))).toNat)).drop ((l1.length:Int).toNat))).bind fun x3=>(ew.f k x2 x3).bind fun x4=>(ia.f k x4).bind fun x5=>an (decide ((0:Int)≤(((a1.take ((I W (x1+min2 64 (((a1.take a1.length).drop x1.toNat).length:Int))).toNat)).drop x1.toNat).length:Int)∧(((a1.take ((I W (x1+min2 64 (((a1.take a1.length).drop x1.toNat).length:Int))).toNat)).drop x1.toNat).length:Int)≤(x5.length:Int))) (an (decide ((l1.length+((x5.take ((((a1.take ((I W (x1+min2 64 (((a1.take a1.length).drop x1.toNat).length:Int))).toNat)).drop x1.toNat).length:Int).toNat)).drop 0).length)*1≤140737488355328)) (hX.l0 k a1 a2 (l1++(x5.take ((((a1.take ((I W (x1+min2 64 (((a1.take a1.length).drop x1.toNat).length:Int))).toNat)).drop x1.toNat).length:Int).toNat)).drop 0) (I W (x1+64))))))))else(some l1)
def hX.f(k:Nat)(a1 a2:List Int):Option (List Int):=an (decide ((0:Int)≤0∧(0:Int)≤(a1.length:Int)∧(a1.length:Int)≤140737488355328)) (hX.l0 k a1 a2 (List.replicate (0:Int).toNat (0:Int)) 0)
theorem hX.calls{a1 a2:List Int}{r:List Int}(h1:Zf no w0 v1_ a1)(h2:Zf no w0 v2_ a2)(E:hX.f k a1 a2=some r):
 Calls aa 430 #[.agg #[],v1_,v2_] w0 fun e w'=>∃(u0:Value),e= .returned (u0)∧St no w0 w' [Y9 u0 r]:=by
 have H:=St.nil no w0
 unfold hX.f at E
 refine Zb func430 ?_
 have H:=H.mk0
 refine rg (ye (bc (cs:=#[]) H z (fun b1 w H=>?_)))
 obtain⟨p2,n3,c4,rfl⟩:=eO h2
 refine ye (bc (cs:=#[(.slice p2 n3 c4)]) H z (fun b5 w H=>A_ ?_))
 obtain⟨⟨g7,g8,g9⟩,E⟩:=ar E
 refine ye (ee (e:=(.int .u8)) (z0:=0) fO z H z z g7 g8 a_ a_ (fun v6 w H=>ye (cr Mt H (fun b2 w H=>?_))))
 obtain⟨p1,n1,c1,rfl⟩:=bX (H.Gt 3 z)
 refine s_ (cQ BI H 4 z z z z z (fun w H=>A_ ?_))
 have H:St _ _ _ [_,_,_,_,_]:=H
 refine A_ ?_
 refine ye (cm 9 [v1_,ii 64] Mo func181 z z z z (rg ?_))
 obtain⟨p3,n2,c2,rfl⟩:=eO h1
 refine ye (bc (cs:=#[(.slice p3 n2 c2)]) H z (fun b3 w H=>ye (bc (cs:=#[ii 64]) H z (fun b4 w H=>A_ ?_))))
 refine vr (dt [pt b3,pt b4] z) (A_ ?_)
 refine⟨.inl z,.func (.func 235) #[] #[pt b3,pt b4],tk0 z ⟨ba z (ad ai) z,nl (aG (je 31 [pt b3,pt b4] z func235 z z z z z H 0 z z (fun v1 b6 o1 w hO1 H=>rg (va (ii 0) (nl (aG ?_))))))⟩⟩
 refine bx (fun kk t w=>∃(l1:List Int)(x1:Int)(v2:Value)(t1:Fr),kk≤k∧hX.l0 kk a1 a2 l1 x1=some r∧t=aU t1 [(0,.func (.yield b6) #[] #[]),(1,pt b3),(2,pt b4),(4,ii x1),Zc]∧St no w0 w [.bO v1,.blk b1 #[] 188,.blk b5 #[(.slice p2 n3 c4)] 22,Y9 v2 l1,.blk b2 #[v2] 22,.blk b3 #[(.slice p3 n2 c2)] 22,.blk b4 #[ii 64] 3,.obj b6 (.loop o1)]) k Ze ?_
 rintro kk t w ⟨l1,x1,v2,t1,hk1,E,rfl,H⟩
 obtain⟨k1,rfl⟩:=Zd kk
 rw[hX.l0]at E
 refine A_ ?_
 refine aE E z ?_ ?_<;>intro c3 E<;>refine A_ ?_
 ·refine cd (ds:=[]) pX H z z ?_
  have H:=H.drew
  refine B_ [0,1,2] H ?_
  obtain⟨⟨g1,g2⟩,E⟩:=ar E
  have p4:x1.toNat≤a1.length:=a_
  have p5:a1.length≤a1.length:=a_
  refine wz 3 z H (fun w H=>iW fO (H.rd h1) z z g1 g2) (wz 4 z H (fun w H=>aY jQ (Rd.bz (H.rd h1) p4 p5) z) (B_ [5,6] H ?_))
  obtain⟨⟨g3,g4,g5,g6⟩,E⟩:=ar E
  have p6:x1.toNat≤(I W (x1+min2 64 (((a1.take a1.length).drop x1.toNat).length:Int))).toNat:=a_
  have p7:(I W (x1+min2 64 (((a1.take a1.length).drop x1.toNat).length:Int))).toNat≤(I W (x1+min2 64 (((a1.take a1.length).drop x1.toNat).length:Int))).toNat:=a_
  have p8:(I W (x1+min2 64 (((a1.take a1.length).drop x1.toNat).length:Int))).toNat≤a1.length:=a_
  refine vr (kW fO (H.rd h1) z z z z g3 g4 g5 g6) (ye (jf [cq (.slice p3 n2 c2) x1.toNat ((I W (x1+min2 64 (((a1.take a1.length).drop x1.toNat).length:Int))).toNat) ((I W (x1+min2 64 (((a1.take a1.length).drop x1.toNat).length:Int))).toNat) 1] z z H 7 z hO1 z z (A_ ?_)))
  refine yB H 7 z hO1 (fun w H=>A_ ?_)
  refine vr (aY jQ (Rd.cq (H.rd h1) p6 p7 p8) z) (A_ ?_)
  obtain⟨⟨g10,g11,g12⟩,E⟩:=ar E
  have p9:(l1.length:Int).toNat≤(I W ((l1.length:Int)+(((a1.take ((I W (x1+min2 64 (((a1.take a1.length).drop x1.toNat).length:Int))).toNat)).drop x1.toNat).length:Int))).toNat:=a_
  have p10:(I W ((l1.length:Int)+(((a1.take ((I W (x1+min2 64 (((a1.take a1.length).drop x1.toNat).length:Int))).toNat)).drop x1.toNat).length:Int))).toNat≤a2.length:=a_
  refine vr (CI fO (H.rd h2) z z z g10 g11 g12) (A_ ?_)
  refine eZ (ds:=[11]) (fun w=>∃(v':Value)(l':List Int),St no w0 w [.bO v1,.blk b1 #[] 188,.blk b5 #[(.slice p2 n3 c4)] 22,Y9 v' l',.blk b2 #[v2] 22,.blk b3 #[(.slice p3 n2 c2)] 22,.blk b4 #[ii 64] 3,.obj b6 (.loop (ku o1))]) pX H z z ?_
  have H:=H.drew
  refine B_ [0,1,3,7] ⟨_,_,H⟩ ?_
  refine wz 8 z ⟨_,_,H⟩ (fun w ⟨v',l',H⟩=>aY jQ (Rd.cq (H.rd h1) p6 p7 p8) z) ?_
  refine wo 2 z (E9 mO H E (fun _=>cY.calls (H.arg (Rd.cq (H.rd h1) p6 p7 p8))) (fun x2 E w H=>⟨fun _=>⟨_,_,H.Y8 [0,1,2,3,4,5,6,7]⟩,?_⟩))
  refine wo 4 z (E9 mO H E (fun _=>cY.calls (H.arg (Rd.bz (H.rd h2) p9 p10))) (fun x3 E w H=>⟨fun _=>⟨_,_,H.Y8 [0,1,2,3,4,5,6,7]⟩,?_⟩))
  refine wo 5 z (E9 tK H E (fun _=>ew.calls) (fun x4 E w H=>⟨fun _=>⟨_,_,H.Y8 [0,1,2,3,4,5,6,7]⟩,?_⟩))
  refine wo 6 z (YM Mp H E (fun _=>ia.calls) (fun x5 E v3 w H=>⟨fun _=>⟨_,_,H.Y8 [0,1,2,3,4,5,6,7]⟩,?_⟩))
  obtain⟨⟨g13,g14⟩,E⟩:=ar E
  have p12:0≤(((a1.take ((I W (x1+min2 64 (((a1.take a1.length).drop x1.toNat).length:Int))).toNat)).drop x1.toNat).length:Int).toNat:=a_
  have p13:(((a1.take ((I W (x1+min2 64 (((a1.take a1.length).drop x1.toNat).length:Int))).toNat)).drop x1.toNat).length:Int).toNat≤x5.length:=a_
  refine wy 9 z (⟨_,_,H.Y8 [0,1,2,3,4,5,6,7]⟩) (fU fO (ao (H.Gt 8 z)) z z g13 g14) ?_
  obtain⟨g15,E⟩:=ar E
  refine wo 10 z (dZ fO H 3 z (Rd.bz (ao (H.Gt 8 z)) p12 p13) z z a_ u_ (fun v4 w H=>⟨fun _=>⟨_,_,H.Y8 [0,1,2,3,4,5,6,7]⟩,?_⟩))
  have H:St _ _ _ [_,_,_,_,_,_,_,_,_]:=H
  obtain⟨p14,n4,c5,rfl⟩:=bX (H.Gt 3 z)
  refine wo 11 z (cQ BI H 4 z z z z z (fun w H=>⟨fun h=>(h f_).elim,wd (aR (yN H 7 z hO1 (fun w H=>A_ ?_)))⟩))
  exact⟨k1,bL _,_,_,_,_,bK hk1,E,Za,H.Y8 [0,1,2,3,4,5,6,7]⟩
 refine⟨.inr z,.tuple #[],tk0 z ⟨ba z ai z,ji H 7 z hO1 (fun w H=>aR (ab (rg (vr (av mQ z (ak (H.Gt 4 z) z)) (va v2 (nl (aj ?_)))))))⟩⟩
 cases E
 exact⟨.inl z,_,gT H 0 z z (fun w H=>⟨aB z (ad ai),_,z,H.bA 3 z⟩)⟩
theorem tB:Fa aa 186 0 0:=⟨_,_,underlying186,z,z,0,d_⟩
theorem tC:Sc aa 184:=⟨_,underlying184,z⟩
theorem J5(w:World):(Go.method (Tryz.prog.types.size+Made.depth) 188 (.agg #[]) "Mul").run aa w= .ok (428,.agg #[]) w:=d_
theorem J1:En aa 428:=⟨_,_,func428,d_,z⟩
theorem J4(w:World):(Go.method (Tryz.prog.types.size+Made.depth) 188 (.agg #[]) "Inv").run aa w= .ok (427,.agg #[]) w:=d_
theorem J0:En aa 427:=⟨_,_,func427,d_,z⟩
theorem J6(w:World):(Go.method (Tryz.prog.types.size+Made.depth) 188 (.agg #[]) "Pow").run aa w= .ok (429,.agg #[]) w:=d_
theorem J2:En aa 429:=⟨_,_,func429,d_,z⟩
theorem J7(w:World):(Go.method (Tryz.prog.types.size+Made.depth) 188 (.agg #[]) "erratum/field.pairs").run aa w= .ok (430,.agg #[]) w:=d_
theorem J3:En aa 430:=⟨_,_,func430,d_,z⟩
def rk.f(k:Nat)(a1 a2:Int):Option (Int):=(nK.f k a1 a2).bind fun x1=>some x1
theorem rk.calls{a1 a2 r:Int}(hf:St (Rs.ah F_).fp w0 w0 [.blk F_.p #[.iface 188 (.agg #[]),ii 3] 186,.gt])(E:rk.f k a1 a2=some r):
 Calls aa 232 #[pt F_.p,iu a1,iu a2] w0 fun e w'=>e= .returned (iu r)∧St (Rs.ah F_).fp w0 w' [.blk F_.p #[.iface 188 (.agg #[]),ii 3] 186,.gt]:=by
 have H:=hf
 unfold rk.f at E
 refine Zb func232 ?_
 refine A_ ?_
 obtain⟨x1,E2,E⟩:=ay E
 refine ye (jZ J5 J1 z z ((nK.calls E2).mono ?_))
 rintro _ w ⟨rfl,K⟩
 have H:=H.app K
 refine⟨_,z,A_ ?_⟩
 cases E
 exact⟨.inl z,_,tk0 z ⟨aB z (ad ai),z,H.bN 0 1 z z z⟩⟩
def re.f(k:Nat)(a1:Int):Option (Int×Bool):=(ft.f k a1).bind fun x1=>some (x1.1,x1.2)
theorem re.calls{a1:Int}{r:Int×Bool}(hf:St (Rs.ah F_).fp w0 w0 [.blk F_.p #[.iface 188 (.agg #[]),ii 3] 186,.gt])(E:re.f k a1=some r):
 Calls aa 253 #[pt F_.p,iu a1] w0 fun e w'=>e= .returned (.tuple #[iu r.1,.bool r.2])∧St (Rs.ah F_).fp w0 w' [.blk F_.p #[.iface 188 (.agg #[]),ii 3] 186,.gt]:=by
 have H:=hf
 unfold re.f at E
 refine Zb func253 ?_
 refine A_ ?_
 obtain⟨x1,E2,E⟩:=ay E
 refine ye (jZ J4 J0 z z ((ft.calls E2).mono ?_))
 rintro _ w ⟨rfl,K⟩
 have H:=H.app K
 refine⟨_,z,A_ ?_⟩
 cases E
 exact⟨.inl z,_,tk0 z ⟨aB z (ad (ad ai)),z,H.bN 0 1 z z z⟩⟩
def rp.f(k:Nat)(a1 a2:Int):Option (Int):=(da.f k a1 a2).bind fun x1=>some x1
theorem rp.calls{a1 a2 r:Int}(hf:St (Rs.ah F_).fp w0 w0 [.blk F_.p #[.iface 188 (.agg #[]),ii 3] 186,.gt])(E:rp.f k a1 a2=some r):
 Calls aa 234 #[pt F_.p,iu a1,ii a2] w0 fun e w'=>e= .returned (iu r)∧St (Rs.ah F_).fp w0 w' [.blk F_.p #[.iface 188 (.agg #[]),ii 3] 186,.gt]:=by
 have H:=hf
 unfold rp.f at E
 refine Zb func234 ?_
 refine A_ ?_
 obtain⟨x1,E2,E⟩:=ay E
 refine ye (jZ J6 J2 z z ((da.calls E2).mono ?_))
 rintro _ w ⟨rfl,K⟩
 have H:=H.app K
 refine⟨_,z,A_ ?_⟩
 cases E
 exact⟨.inl z,_,tk0 z ⟨aB z (ad ai),z,H.bN 0 1 z z z⟩⟩
def pD.f(k:Nat)(a1 a2:List Int):Option (List Int):=bif decide (min2 (a1.length:Int) (a2.length:Int)=0)then(some ([]:List Int))else(an (decide ((0:Int)≤min2 (a1.length:Int) (a2.length:Int)∧min2 (a1.length:Int) (a2.length:Int)≤(a1.length:Int))) (an (decide ((0:Int)≤min2 (a1.length:Int) (a2.length:Int)∧min2 (a1.length:Int) (a2.length:Int)≤(a2.length:Int))) ((hX.f k ((a1.take ((min2 (a1.length:Int) (a2.length:Int)).toNat)).drop 0) ((a2.take ((min2 (a1.length:Int) (a2.length:Int)).toNat)).drop 0)).bind fun x1=>some x1)))
theorem pD.calls{a1 a2:List Int}{r:List Int}(hf:St (Rs.ah F_).fp w0 w0 [.blk F_.p #[.iface 188 (.agg #[]),ii 3] 186,.gt])(h1:Zg F_ w0 v1_ a1)(h2:Zg F_ w0 v2_ a2)(E:pD.f k a1 a2=some r):
 Calls aa 280 #[pt F_.p,v1_,v2_] w0 fun e w'=>∃(u0:Value),e= .returned (u0)∧St (Rs.ah F_).fp w0 w' [.blk F_.p #[.iface 188 (.agg #[]),ii 3] 186,.gt,Y9 u0 r]:=by
 have H:=hf
 unfold pD.f at E
 refine Zb func280 ?_
 refine A_ ?_
 refine aE E z ?_ ?_<;>intro c2 E
 ·refine A_ ?_
  have H:=H.bB (.int .u8) 5
  cases E
  exact(aL ⟨.inl z,_,tk0 z ⟨aB z (ad ai),_,z,H.fJ 0 1 2 z z z z z z⟩⟩)
 refine aA (ab (ae (cd (ds:=[]) pX H z z ?_)))
 have H:=H.drew
 refine B_ [0,1,2,3,4,5] H ?_
 obtain⟨⟨g3,g4⟩,E⟩:=ar E
 have p6:0≤(min2 (a1.length:Int) (a2.length:Int)).toNat:=a_
 have p7:(min2 (a1.length:Int) (a2.length:Int)).toNat≤a1.length:=a_
 refine wz 6 z H (fun w H=>fU fO (H.rd h1) z z g3 g4) (B_ [7,8] H ?_)
 obtain⟨⟨g8,g9⟩,E⟩:=ar E
 have p1:0≤(min2 (a1.length:Int) (a2.length:Int)).toNat:=a_
 have p2:(min2 (a1.length:Int) (a2.length:Int)).toNat≤a2.length:=a_
 refine wz 9 z H (fun w H=>fU fO (H.rd h2) z z g8 g9) (B_ [10,11] H ?_)
 obtain⟨x1,E1,E⟩:=ay E
 refine wo 12 z (jZ J7 J3 z z ((hX.calls (H.arg (Rd.bz (H.rd h1) p6 p7)) (H.arg (Rd.bz (H.rd h2) p1 p2)) E1).mono ?_))
 rintro _ w ⟨v1,rfl,K⟩
 have H:=H.app K
 refine⟨_,z,⟨fun _=>H.Y8 [0,1],B_ [13] (H.Y8 [0,1]) ?_⟩⟩
 cases E
 exact⟨.inl z,_,tk0 z ⟨aB z (ad ai),_,z,H.fJ 0 1 2 z z z z z z⟩⟩
end Go.Proofs.YtmhkpafkadijgaaGreatDoor.Gw
