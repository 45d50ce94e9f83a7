/- A part of the proof of Rows.PlayDecodesCardSaid; the conditions are that card's own. -/
import Derived.Test.YtmhkpafkadijgaaGreatDoorQ24
set_option linter.all false
set_option maxRecDepth 100000
set_option maxHeartbeats 4000000
namespace Go.Proofs.YtmhkpafkadijgaaGreatDoor.Gw
open Go.IntKind renaming wrap→I,i64→W
open Go Go.RowKit
variable[de]
open Go.IntKind (i8 i16 i32 i64 u8 u16 u32 u64)
open Tryz hiding prog
open Tryz renaming prog → aa
variable{w0:World}{k:Nat}{v0_:Value}
def fh.l0:Nat→List Int→ByteArray→Int→Option (ByteArray)
 |0,_,_,_=>none
 |k+1,a0,x1,x2=>bif decide (x2<(a0.length:Int))then(an (decide ((0:Int)≤x2∧x2<(a0.length:Int))) (an (decide ((0:Int)≤x2∧x2<(a0.length:Int))) (an (decide ((0:Int)≤u8.wrap (Int.tdiv (at_ 0 a0 x2) 16)∧u8.wrap (Int.tdiv (at_ 0 a0 x2) 16)≤u8.wrap (u8.wrap (Int.tdiv (at_ 0 a0 x2) 16)+1)∧u8.wrap (u8.wrap (Int.tdiv (at_ 0 a0 x2) 16)+1)≤(jA.size:Int))) (an (decide ((x1.size+(ext jA (u8.wrap (Int.tdiv (at_ 0 a0 x2) 16)) (u8.wrap (u8.wrap (Int.tdiv (at_ 0 a0 x2) 16)+1))).size:Nat)≤140737488355328)) (an (decide ((0:Int)≤x2∧x2<(a0.length:Int))) (an (decide ((0:Int)≤x2∧x2<(a0.length:Int))) (an (decide ((0:Int)≤Int.tmod (at_ 0 a0 x2) 16∧Int.tmod (at_ 0 a0 x2) 16≤u8.wrap (Int.tmod (at_ 0 a0 x2) 16+1)∧u8.wrap (Int.tmod (at_ 0 a0 x2) 16+1)≤(jA.size:Int))) (an (decide (((cat x1 (ext jA (u8.wrap (Int.tdiv (at_ 0 a0 x2) 16)) (u8.wrap (u8.wrap (Int.tdiv (at_ 0 a0 x2) 16)+1)))).size+(ext jA (Int.tmod (at_ 0 a0 x2) 16) (u8.wrap (Int.tmod (at_ 0 a0 x2) 16+1))).size:Nat)≤140737488355328)) (fh.l0 k a0 (cat (cat x1 (ext jA (u8.wrap (Int.tdiv (at_ 0 a0 x2) 16)) (u8.wrap (u8.wrap (Int.tdiv (at_ 0 a0 x2) 16)+1)))) (ext jA (Int.tmod (at_ 0 a0 x2) 16) (u8.wrap (Int.tmod (at_ 0 a0 x2) 16+1)))) (I W (x2+1)))))))))))else(some x1)
def fh.f(k:Nat)(a0:List Int):Option (ByteArray):=bif decide ((a0.length:Int)=0)then(some mc)else(fh.l0 k a0 dp 0)
theorem fh.calls{a0:List Int}{r:ByteArray}(h0:Zf no w0 v0_ a0)(E:fh.f k a0=some r):
 Calls aa 11 #[v0_] w0 fun e w'=>e= .returned (.string r)∧St no w0 w' []:=by
 have H:=St.nil no w0
 unfold fh.f at E
 refine Zb func11 ?_
 refine A_ ?_
 refine aE E z ?_ ?_<;>intro c2 E<;>refine A_ ?_
 ·cases E
  exact(aL ⟨.inl z,_,tk0 z ⟨aB z (ad ai),z,H.bs⟩⟩)
 refine bx (fun kk t w=>∃(x1:ByteArray)(x2:Int)(t1:Fr),kk≤k∧fh.l0 kk a0 x1 x2=some r∧t=aU t1 [(0,v0_),(2,.string dp),(3,.string x1),(4,ii x2),Zc]∧St no w0 w []) k Ze ?_
 rintro kk t w ⟨x1,x2,t1,hk1,E,rfl,H⟩
 obtain⟨k1,rfl⟩:=Zd kk
 rw[fh.l0]at E
 refine A_ ?_
 refine aE E z ?_ ?_<;>intro c1 E<;>refine A_ ?_
 ·refine cd (ds:=[]) yi H z z ?_
  have H:=H.drew
  refine B_ [0,1,2] H ?_
  obtain⟨⟨g1,g2⟩,E⟩:=ar E
  refine B_ [3,4,5,6,7] H ?_
  obtain⟨⟨g3,g4⟩,E⟩:=ar E
  refine B_ [8,9,10,11] H ?_
  obtain⟨⟨g5,g6,g7⟩,E⟩:=ar E
  refine wg 12 z H (uo underlying9 z z z g5 g6 g7) ?_
  obtain⟨g8,E⟩:=ar E
  refine wg 13 z H (cJ z z g8) (B_ [14,15] H ?_)
  obtain⟨⟨g9,g10⟩,E⟩:=ar E
  refine B_ [16,17,18,19,20] H ?_
  obtain⟨⟨g11,g12⟩,E⟩:=ar E
  refine B_ [21,22,23,24] H ?_
  obtain⟨⟨g13,g14,g15⟩,E⟩:=ar E
  refine wg 25 z H (uo underlying9 z z z g13 g14 g15) ?_
  obtain⟨g16,E⟩:=ar E
  refine wg 26 z H (cJ z z g16) (B_ [27] H ?_)
  exact⟨k1,bL _,_,_,_,bK hk1,E,Za,H⟩
 cases E
 exact⟨.inl z,_,tk0 z ⟨aB z (ad ai),z,H.bs⟩⟩
def kB:ByteArray:=⟨#[]⟩
theorem na:((#[65]:Array TypeId)[0]?).bind Tryz.prog.underlying=some (.slice 9):=iD underlying65
theorem ig:Sl aa 65 9 1 16 (.string ByteArray.empty):=ja underlying65 d_ z f_
theorem xc:En aa 66:=⟨_,_,func66,d_,z⟩
theorem qi:Sc aa 9:=⟨_,underlying9,z⟩
theorem xd:En aa 70:=⟨_,_,func70,d_,z⟩
theorem On:En aa 67:=⟨_,_,func67,d_,z⟩
theorem Oo:En aa 69:=⟨_,_,func69,d_,z⟩
theorem Oq:En aa 71:=⟨_,_,func71,d_,z⟩
theorem rU:Zr aa 24 #[ii 0,ii 0,ii 0]:=⟨.agg #[ii 0,ii 0,ii 0],d_,z⟩
theorem xb:Bd aa 24 #[ii 0,ii 0,ii 0] [(0,1),(1,1),(2,1)]:=⟨_,.agg #[ii 0,ii 0,ii 0],underlying24,d_,z,fun w=>d_⟩
theorem qj:Sz aa 24 3:=K_
theorem Oc:En aa 31:=⟨_,_,func31,d_,z⟩
theorem N7:Bd aa 121 #[.int .u32 0,.int .i32 0,.int .u32 0,.int .i32 0,.pointer none,.int .u32 0,.int .i32 0,.int .u32 0,.int .i32 0,.pointer none,.int .u32 0,.int .i32 0,.int .u32 0,.int .i32 0,.pointer none,.int .u32 0,.int .i32 0,.int .u32 0,.int .i32 0,.pointer none,ii 0,ii 0,ii 0,ii 0,ii 0,ii 0,ii 0,ii 0,ii 0,ii 0,ii 0,ii 0,ii 0,ii 0,ii 0,ii 0] [(0,20),(20,16)]:=⟨_,.agg #[.int .u32 0,.int .i32 0,.int .u32 0,.int .i32 0,.pointer none,.int .u32 0,.int .i32 0,.int .u32 0,.int .i32 0,.pointer none,.int .u32 0,.int .i32 0,.int .u32 0,.int .i32 0,.pointer none,.int .u32 0,.int .i32 0,.int .u32 0,.int .i32 0,.pointer none,ii 0,ii 0,ii 0,ii 0,ii 0,ii 0,ii 0,ii 0,ii 0,ii 0,ii 0,ii 0,ii 0,ii 0,ii 0,ii 0],underlying121,d_,z,fun w=>d_⟩
theorem Oa:Bd aa 62 #[.pointer none,ii 0,ii 0,ii 0,ii 0,ii 0,sn,sn] [(0,1),(1,3),(4,2),(6,1),(7,1)]:=⟨_,.agg #[.pointer none,ii 0,ii 0,ii 0,ii 0,ii 0,sn,sn],underlying62,d_,z,fun w=>d_⟩
def dJ:ByteArray:=⟨#[99,111,100,101]⟩
def dK:ByteArray:=⟨#[112,105,99,107]⟩
def dT:ByteArray:=⟨#[101,110,99,111,100,101]⟩
def dU:ByteArray:=⟨#[100,101,99,111,100,101]⟩
def dV:ByteArray:=⟨#[115,121,110,100]⟩
def dW:ByteArray:=⟨#[115,101,110,100]⟩
def dS:ByteArray:=⟨#[98,117,114,115,116]⟩
def ez:ByteArray:=⟨#[102,108,97,103]⟩
def eA:ByteArray:=⟨#[116,97,107,101]⟩
def eB:ByteArray:=⟨#[97,115,107,101,100]⟩
def du:ByteArray:=⟨#[10]⟩
theorem CA:En aa 42:=⟨_,_,func42,d_,z⟩
theorem Ok:En aa 43:=⟨_,_,func43,d_,z⟩
theorem OT:Zr aa 70 #[.pointer none,sn]:=⟨.agg #[.pointer none,sn],d_,z⟩
def bU:ByteArray:=⟨#[32]⟩
def cO:ByteArray:=⟨#[98,97,100]⟩
theorem oy:(Tryz.prog.info? 63).bind (·.zero)=some .nilFunc:=d_
theorem Od:En aa 32:=⟨_,_,func32,d_,z⟩
theorem rS:En aa 68:=⟨_,_,func68,d_,z⟩
theorem uf:Fa aa 62 1 1:=⟨_,_,underlying62,z,z,2,d_⟩
def mZ:ByteArray:=⟨#[111,107]⟩
theorem ot:En aa 44:=⟨_,_,func44,d_,z⟩
theorem Oe:En aa 33:=⟨_,_,func33,d_,z⟩
theorem xg:Fa aa 62 2 4:=⟨_,_,underlying62,z,z,1,d_⟩
theorem Og:En aa 34:=⟨_,_,func34,d_,z⟩
theorem xf:Fa aa 62 0 0:=⟨_,_,underlying62,z,z,0,d_⟩
theorem xm:Sc aa 57:=⟨_,underlying57,z⟩
theorem qg:En aa 72:=⟨_,_,func72,d_,z⟩
theorem Oh:En aa 35:=⟨_,_,func35,d_,z⟩
theorem CB:En aa 73:=⟨_,_,func73,d_,z⟩
theorem CE:Fa aa 33 1 1:=⟨_,_,underlying33,z,z,0,d_⟩
theorem CD:Fa aa 33 0 0:=⟨_,_,underlying33,z,z,0,d_⟩
theorem CF:Fa aa 33 2 2:=⟨_,_,underlying33,z,z,0,d_⟩
def CK:ByteArray:=⟨#[44]⟩
theorem xe:En aa 75:=⟨_,_,func75,d_,z⟩
theorem CC:En aa 74:=⟨_,_,func74,d_,z⟩
theorem Om:En aa 45:=⟨_,_,func45,d_,z⟩
def bg.j0(l0r:List (ByteArray)→List Int→ByteArray→Int→Int→Int→Int→Int→Int→Option ByteArray)(k:Nat)(l1:List ByteArray):Option (ByteArray):=l0r l1 (List.replicate 16 (0:Int)) ByteArray.empty 7 3 0 0 0 0
def bg.j1(l0r:List (ByteArray)→List Int→ByteArray→Int→Int→Int→Int→Int→Int→Option ByteArray)(k:Nat)(l1:List ByteArray)(l2:List Int)(l3:ByteArray)(x1 x2 x3 x4 x5 x6:Int)(x7:ByteArray):Option (ByteArray):=an (decide ((x7.size+du.size:Nat)≤140737488355328)) (an (decide (l3.size+(cat x7 du).size≤140737488355328)) (l0r l1 l2 (cat l3 (cat x7 du)) x4 x5 x6 x1 x2 (I W (x3+1))))
def bg.j2(l0r:List (ByteArray)→List Int→ByteArray→Int→Int→Int→Int→Int→Int→Option ByteArray)(k:Nat)(l1:List ByteArray)(l2:List Int)(l3:ByteArray)(x1 x2 x3 x4 x5 x6:Int)(x7:ByteArray):Option (ByteArray):=an (decide ((x7.size+du.size:Nat)≤140737488355328)) (an (decide (l3.size+(cat x7 du).size≤140737488355328)) (l0r l1 l2 (cat l3 (cat x7 du)) x1 x2 x3 x5 x6 (I W (x4+1))))
def bg.j3(l0r:List (ByteArray)→List Int→ByteArray→Int→Int→Int→Int→Int→Int→Option ByteArray)(k:Nat)(l1:List ByteArray)(l2:ByteArray)(x1 x2 x3 x4 x5 x6:Int)(l3:List Int)(x7:ByteArray):Option (ByteArray):=an (decide ((x7.size+du.size:Nat)≤140737488355328)) (an (decide (l2.size+(cat x7 du).size≤140737488355328)) (l0r l1 l3 (cat l2 (cat x7 du)) x1 x2 x3 x4 x5 (I W (x6+1))))
def bg.j4(l0r:List (ByteArray)→List Int→ByteArray→Int→Int→Int→Int→Int→Int→Option ByteArray)(k:Nat)(l1:List ByteArray)(l2:ByteArray)(x1 x2 x3 x4 x5 x6:Int)(l3:List Int)(x7:ByteArray):Option (ByteArray):=an (decide ((x7.size+du.size:Nat)≤140737488355328)) (an (decide (l2.size+(cat x7 du).size≤140737488355328)) (l0r l1 l3 (cat l2 (cat x7 du)) x1 x2 x3 x4 x5 (I W (x6+1))))
def bg.l0:Nat→List (ByteArray)→List Int→ByteArray→Int→Int→Int→Int→Int→Int→Option (ByteArray)
 |0,_,_,_,_,_,_,_,_,_=>none
 |k+1,l1,l2,l3,x1,x2,x3,x4,x5,x6=>bif decide (x6<(l1.length:Int))then(an (decide ((0:Int)≤x6∧x6<(l1.length:Int))) ((strings_Split.f (at_ ByteArray.empty l1 x6) bU).bind fun x7=>an (decide ((0:Int)≤0∧0<(x7.length:Int))) (bif decide (at_ ByteArray.empty x7 0=dJ)then(an (decide ((0:Int)≤1∧1≤(x7.length:Int))) ((fR.f k ((x7.take x7.length).drop ((1:Int).toNat))).bind fun x8=>bif !x8.2 then(bg.j1 (bg.l0 k) k l1 l2 l3 x4 x5 x6 x1 x2 x3 cO)else(bif !decide ((x8.1.length:Int)=3)then(bg.j1 (bg.l0 k) k l1 l2 l3 x4 x5 x6 x1 x2 x3 cO)else(an (decide ((0:Int)≤0∧0<(x8.1.length:Int))) (an (decide ((0:Int)≤1∧1<(x8.1.length:Int))) (an (decide ((0:Int)≤2∧2<(x8.1.length:Int))) ((dh.f (at_ 0 x8.1 0,at_ 0 x8.1 1,at_ 0 x8.1 2)).bind fun x9=>bif !decide (x9=0)then((jT.f x9).bind fun x10=>bg.j1 (bg.l0 k) k l1 l2 l3 x4 x5 x6 x1 x2 x3 x10)else(bg.j1 (bg.l0 k) k l1 l2 l3 x4 x5 x6 (at_ 0 x8.1 0) (at_ 0 x8.1 1) (at_ 0 x8.1 2) mZ))))))))else(bif decide (at_ ByteArray.empty x7 0=dK)then(an (decide ((0:Int)≤1∧1≤(x7.length:Int))) ((fR.f k ((x7.take x7.length).drop ((1:Int).toNat))).bind fun x11=>bif !x11.2 then(bg.j2 (bg.l0 k) k l1 l2 l3 x1 x2 x3 x6 x4 x5 cO)else(bif !decide ((x11.1.length:Int)=2)then(bg.j2 (bg.l0 k) k l1 l2 l3 x1 x2 x3 x6 x4 x5 cO)else(an (decide ((0:Int)≤0∧0<(x11.1.length:Int))) (an (decide ((0:Int)≤1∧1<(x11.1.length:Int))) ((jS.f (at_ 0 x11.1 0,at_ 0 x11.1 1)).bind fun x12=>bif !decide (x12=0)then((jT.f x12).bind fun x13=>bg.j2 (bg.l0 k) k l1 l2 l3 x1 x2 x3 x6 x4 x5 x13)else(bg.j2 (bg.l0 k) k l1 l2 l3 x1 x2 x3 x6 (at_ 0 x11.1 0) (at_ 0 x11.1 1) mZ)))))))else(bif decide (at_ ByteArray.empty x7 0=dT)then(an (decide ((0:Int)≤1∧1≤(x7.length:Int))) (bif !decide ((((x7.take x7.length).drop ((1:Int).toNat)).length:Int)=1)then(bg.j3 (bg.l0 k) k l1 l3 x1 x2 x3 x4 x5 x6 l2 cO)else(an (decide ((0:Int)≤0∧0<(((x7.take x7.length).drop ((1:Int).toNat)).length:Int))) ((fx.f k (at_ ByteArray.empty ((x7.take x7.length).drop ((1:Int).toNat)) 0)).bind fun x14=>bif !x14.2 then(bg.j3 (bg.l0 k) k l1 l3 x1 x2 x3 x4 x5 x6 l2 cO)else((qO.f k l2 (x1,x2,x3) (x4,x5) x14.1).bind fun x15=>bif !decide (x15.1.2=0)then((jT.f x15.1.2).bind fun x16=>bg.j3 (bg.l0 k) k l1 l3 x1 x2 x3 x4 x5 x6 x15.2 x16)else((eM.f k x15.1.1).bind fun x17=>bg.j3 (bg.l0 k) k l1 l3 x1 x2 x3 x4 x5 x6 x15.2 x17))))))else(bif decide (at_ ByteArray.empty x7 0=dU)then(an (decide ((0:Int)≤1∧1≤(x7.length:Int))) (bif decide ((((x7.take x7.length).drop ((1:Int).toNat)).length:Int)=0)then(bg.j4 (bg.l0 k) k l1 l3 x1 x2 x3 x4 x5 x6 l2 cO)else(an (decide ((0:Int)≤0∧0<(((x7.take x7.length).drop ((1:Int).toNat)).length:Int))) ((fx.f k (at_ ByteArray.empty ((x7.take x7.length).drop ((1:Int).toNat)) 0)).bind fun x18=>an (decide ((0:Int)≤1∧1≤(((x7.take x7.length).drop ((1:Int).toNat)).length:Int))) ((fR.f k ((((x7.take x7.length).drop ((1:Int).toNat)).take (((x7.take x7.length).drop ((1:Int).toNat)).length)).drop ((1:Int).toNat))).bind fun x19=>bif !x18.2 then(bg.j4 (bg.l0 k) k l1 l3 x1 x2 x3 x4 x5 x6 l2 cO)else(bif !x19.2 then(bg.j4 (bg.l0 k) k l1 l3 x1 x2 x3 x4 x5 x6 l2 cO)else((mi.f k l2 (x1,x2,x3) (x4,x5) x18.1 x19.1).bind fun x20=>bif !decide (x20.1.2=0)then((jT.f x20.1.2).bind fun x21=>bg.j4 (bg.l0 k) k l1 l3 x1 x2 x3 x4 x5 x6 x20.2 x21)else((eM.f k x20.1.1.2.1).bind fun x22=>(eM.f k x20.1.1.1).bind fun x23=>(bM.f k x20.1.1.2.2 CK).bind fun x24=>(kV.f ([x22,x23,x24])).bind fun x25=>bg.j4 (bg.l0 k) k l1 l3 x1 x2 x3 x4 x5 x6 x20.2 x25))))))))else(bif decide (at_ ByteArray.empty x7 0=dV)then(none)else(bif decide (at_ ByteArray.empty x7 0=dW)then(none)else(bif decide (at_ ByteArray.empty x7 0=dS)then(none)else(bif decide (at_ ByteArray.empty x7 0=ez)then(none)else(bif decide (at_ ByteArray.empty x7 0=eA)then(none)else(bif decide (at_ ByteArray.empty x7 0=eB)then(none)else(an (decide ((cO.size+du.size:Nat)≤140737488355328)) (an (decide (l3.size+(cat cO du).size≤140737488355328)) (bg.l0 k l1 l2 (cat l3 (cat cO du)) x1 x2 x3 x4 x5 (I W (x6+1)))))))))))))))))else(some l3)
def bg.f(k:Nat)(a0:ByteArray):Option (ByteArray):=(strings_Split.f a0 du).bind fun x5=>an (decide ((0:Int)≤I W ((x5.length:Int)-1)∧I W ((x5.length:Int)-1)<(x5.length:Int))) (bif decide (at_ ByteArray.empty x5 (I W ((x5.length:Int)-1))=kB)then(an (decide ((0:Int)≤I W ((x5.length:Int)-1)∧I W ((x5.length:Int)-1)≤(x5.length:Int)∧(x5.length:Int)≤x5.length∧0<x5.length)) (bg.j0 (bg.l0 k) k (x5.take (I W ((x5.length:Int)-1)).toNat++x5.drop (x5.length:Int).toNat)))else(bg.j0 (bg.l0 k) k x5))
theorem bg.calls{a0 r:ByteArray}(hf:(Rs.env).inv w0)(E:bg.f k a0=some r):
 Calls aa 13 #[.string a0] w0 fun e w'=>e= .returned (.string r)∧St (Rs.env).fp w0 w' [.gt,.lv]:=by
 have H:=vD hf
 unfold bg.f at E
 refine aP (N:=78) (args:=[.string a0]) Tryz.func13 z z j_ ?_
 refine rg (va (.string kB) (nl (rg (ye (cm 3 [] Oc Tryz.func31 z z z z (rg (va (.pointer none) (nl (rg (vr (cf (cs:=[.int .u32 0,.int .i32 0,.int .u32 0,.int .i32 0,.pointer none,.int .u32 0,.int .i32 0,.int .u32 0,.int .i32 0,.pointer none,.int .u32 0,.int .i32 0,.int .u32 0,.int .i32 0,.pointer none,.int .u32 0,.int .i32 0,.int .u32 0,.int .i32 0,.pointer none,ii 0,ii 0,ii 0,ii 0,ii 0,ii 0,ii 0,ii 0,ii 0,ii 0,ii 0,ii 0,ii 0,ii 0,ii 0,ii 0]) N7 z) (ye (QT (cs:=[.int .u32 0,.int .i32 0,.int .u32 0,.int .i32 0,.pointer none,.int .u32 0,.int .i32 0,.int .u32 0,.int .i32 0,.pointer none,.int .u32 0,.int .i32 0,.int .u32 0,.int .i32 0,.pointer none,.int .u32 0,.int .i32 0,.int .u32 0,.int .i32 0,.pointer none,ii 0,ii 0,ii 0,ii 0,ii 0,ii 0,ii 0,ii 0,ii 0,ii 0,ii 0,ii 0,ii 0,ii 0,ii 0,ii 0]) H 0 z z z (fun b2 w H=>va (pt b2) (nl (aj (⟨.inl z,pt b2,tk0 z ⟨ba z (ad ai) z,vr (cf (cs:=[ii 7,ii 3,ii 0]) xb z) (vr (cf (cs:=[pt b2,ii 7,ii 3,ii 0,ii 0,ii 0,sn,sn]) Oa d_) (ye (bc (cs:=#[pt b2,ii 7,ii 3,ii 0,ii 0,ii 0,sn,sn]) H z (fun b3 w H=>va (pt b3) (nl (rg (ye (Ea H (fun b4 w H=>vm (pt b3) (vr (gw [pt b3] [] z z) (s_ (lb (v:=.func (.func 32) #[pt b3] #[]) Tryz.underlying9 Tryz.underlying64 H 3 z z z z d_ (fun w H=>vm (pt b3) (vr (gw [pt b3] [] z z) (s_ (lb (v:=.func (.func 33) #[pt b3] #[]) Tryz.underlying9 Tryz.underlying64 H 3 z z z z d_ (fun w H=>?_)))))))))))))))))⟩⟩))))))))))))))))
 have H:St _ _ _ [_,_,_,_]:=H
 refine vm (pt b3) (vr (gw [pt b3] [] z z) (s_ (lb (v:=.func (.func 34) #[pt b3] #[]) Tryz.underlying9 Tryz.underlying64 H 3 z z z z d_ (fun w H=>vm (pt b3) (vr (gw [pt b3] [] z z) (s_ (lb (v:=.func (.func 35) #[pt b3] #[]) Tryz.underlying9 Tryz.underlying64 H 3 z z z z d_ (fun w H=>vm (pt b3) (vr (gw [pt b3] [] z z) (s_ (lb (v:=.func (.func 36) #[pt b3] #[]) Tryz.underlying9 Tryz.underlying64 H 3 z z z z d_ (fun w H=>vm (pt b3) (vr (gw [pt b3] [] z z) (s_ (lb (v:=.func (.func 37) #[pt b3] #[]) Tryz.underlying9 Tryz.underlying64 H 3 z z z z d_ (fun w H=>vm (pt b3) (vr (gw [pt b3] [] z z) (s_ (lb (v:=.func (.func 38) #[pt b3] #[]) Tryz.underlying9 Tryz.underlying64 H 3 z z z z d_ (fun w H=>?_))))))))))))))))))))
 have H:St _ _ _ [_,_,_,_]:=H
 refine vm (pt b3) (vr (gw [pt b3] [] z z) (s_ (lb (v:=.func (.func 39) #[pt b3] #[]) Tryz.underlying9 Tryz.underlying64 H 3 z z z z d_ (fun w H=>vm (pt b3) (vr (gw [pt b3] [] z z) (s_ (lb (v:=.func (.func 40) #[pt b3] #[]) Tryz.underlying9 Tryz.underlying64 H 3 z z z z d_ (fun w H=>vm (pt b3) (vr (gw [pt b3] [] z z) (s_ (lb (v:=.func (.func 41) #[pt b3] #[]) Tryz.underlying9 Tryz.underlying64 H 3 z z z z d_ (fun w H=>vm (.map (some b4)) (va (.map (some b4)) (nl (rg (vm (.string a0) ?_))))))))))))))))
 refine ye (YN CA H 1 E z (fun _ h=>strings_Split.calls (H.Gt 1 z) h) (fun x5 E v7 w H=>va v7 (nl ?_)))
 refine cA (fun t w=>∃(k21:Nat)(l1:List ByteArray)(v1:Value)(t1:Fr),k21≤k∧bg.j0 (bg.l0 k21) k21 l1=some r∧t=aU t1 [(2,.string kB),(4,.map (some b4)),(5,v1),(1000000,undef)]∧St (Rs.env).fp w0 w [.gd b2 ⟨none,none,none⟩ (List.replicate 16 (0:Int)),.lv,.blk b3 #[pt b2,ii 7,ii 3,ii 0,ii 0,ii 0,sn,sn] 62,.mf b4 [(.string dJ,.func (.func 32) #[pt b3] #[]),(.string dK,.func (.func 33) #[pt b3] #[]),(.string dT,.func (.func 34) #[pt b3] #[]),(.string dU,.func (.func 35) #[pt b3] #[]),(.string dV,.func (.func 36) #[pt b3] #[]),(.string dW,.func (.func 37) #[pt b3] #[]),(.string dS,.func (.func 38) #[pt b3] #[]),(.string ez,.func (.func 39) #[pt b3] #[]),(.string eA,.func (.func 40) #[pt b3] #[]),(.string eB,.func (.func 41) #[pt b3] #[])],.own .str 9 v1 l1]) ?_ ?_
 ·refine rg (vm v7 (vm v7 (vr (aY na (ao (H.Gt 4 z)) z) (vr (bV z z) ?_))))
  obtain⟨⟨g1,g2⟩,E⟩:=ar E
  refine vr (bo ig (ao (H.Gt 4 z)) z z g1 g2) (vr (lO (e:=.str) (j:=0) qi (ao (H.Gt 4 z)) (ga ByteArray.empty g1 g2) z z) (vr (ov z z) (nl ?_)))
  refine aE E z (fun c1 E=>?_) (fun c1 E=>?_)
  ·refine aH (vm v7 (vm v7 (vr (aY na (ao (H.Gt 4 z)) z) (vr (bV z z) (vm v7 (vr (aY na (ao (H.Gt 4 z)) z) ?_))))))
   obtain⟨⟨g3,g4,g5,g6⟩,E⟩:=ar E
   refine ye (Q2 H 4 z Ok z z z g3 g4 g5 g6 (fun v2 w H=>?_))
   have H:St _ _ _ [_,_,_,_,_]:=H
   refine va v2 (aK ?_)
   exact⟨k,_,_,_,aI _,E,aD ⟨z,z,z,z,acu⟩,H⟩
  refine aA ?_
  exact⟨k,_,_,_,aI _,E,aD ⟨z,z,z,z,acu⟩,H⟩
 rintro t w ⟨k21,l1,v1,t1,hk1,E,rfl,H⟩
 unfold bg.j0 at E
 refine rg (ye (D8 OT H (fun b1 w H=>nl (ae (rg (vm v1 (vr (aY na (ao (H.Gt 4 z)) z) (vm (ii 0) (nl (aG ?_))))))))))
 refine bx (fun kk t w=>∃(l2:List Int)(l3:ByteArray)(x1 x2 x3 x4 x6 x7:Int)(m1:DS)(v3:Value)(t2:Fr),kk≤k21∧bg.l0 kk l1 l2 l3 x1 x2 x3 x4 x6 x7=some r∧t=aU t2 [(2,.string kB),(4,.map (some b4)),(6,pt b1),(54,v1),(55,ii (l1.length:Int)),(56,ii x7),(1000000,undef)]∧St (Rs.env).fp w0 w [.gd b2 m1 l2,.lv,.blk b3 #[pt b2,ii x1,ii x2,ii x3,ii x4,ii x6,sn,sn] 62,.mf b4 [(.string dJ,.func (.func 32) #[pt b3] #[]),(.string dK,.func (.func 33) #[pt b3] #[]),(.string dT,.func (.func 34) #[pt b3] #[]),(.string dU,.func (.func 35) #[pt b3] #[]),(.string dV,.func (.func 36) #[pt b3] #[]),(.string dW,.func (.func 37) #[pt b3] #[]),(.string dS,.func (.func 38) #[pt b3] #[]),(.string ez,.func (.func 39) #[pt b3] #[]),(.string eA,.func (.func 40) #[pt b3] #[]),(.string eB,.func (.func 41) #[pt b3] #[])],.own .str 9 v1 l1,.df b1 v3 (sb l3)]) k21 ?_ ?_
 ·exact⟨_,_,_,_,_,_,_,_,_,_,_,aI _,E,aD ⟨z,z,z,z,z,z,z,acu⟩,H⟩
 rintro kk t w ⟨l2,l3,x1,x2,x3,x4,x6,x7,m1,v3,t2,hk2,E,rfl,H⟩
 obtain⟨k1,rfl⟩|rfl:=ks kk
 rotate_left
 ·cases E
 rw[bg.l0]at E
 refine rg (vr (aZ z z) (nl (ae ?_)))
 refine aE E z (fun c2 E=>?_) (fun c2 E=>?_)
 ·refine aA (ab (ae (aG (rg ?_))))
  obtain⟨⟨g7,g8⟩,E⟩:=ar E
  refine vr (bo ig (ao (H.Gt 4 z)) z z g7 g8) (vr (lO (e:=.str) (j:=0) qi (ao (H.Gt 4 z)) (ga ByteArray.empty g7 g8) z z) (va (.string (at_ ByteArray.empty l1 x7)) (nl (rg (vm (.string (at_ ByteArray.empty l1 x7)) ?_)))))
  refine ye (YN CA H 1 E z (fun _ h=>strings_Split.calls (H.Gt 1 z) h) (fun x8 E v4 w H=>va v4 (nl (rg (va (.string cO) (nl (ae (rg (vm (.map (some b4)) (vm v4 ?_))))))))))
  obtain⟨⟨g9,g10⟩,E⟩:=ar E
  refine vr (bo ig (ao (H.Gt 6 z)) z z g9 g10) (vr (lO (e:=.str) (j:=0) qi (ao (H.Gt 6 z)) (ga ByteArray.empty g9 g10) z z) ?_)
  rcases bR (decide (at_ ByteArray.empty x8 0=dJ))with c3|c3
  ·have E:=iT c3 E
   refine vr (ou Tryz.underlying9 Tryz.underlying64 oy (H.Gt 3 z) z z z (by simp only[ψ,Bv,kt,c3,EK,U_])) (vr (sg (.func (.func 32) #[pt b3] #[]) z) (nl (rg (vr (mv (.func (.func 32) #[pt b3] #[]) z) (vr (qh Tryz.underlying63 z z z) (nl (cl z (aH (vr (mv (.func (.func 32) #[pt b3] #[]) z) (vr (mv v4 z) ?_))))))))))
   obtain⟨⟨g11,g12⟩,E⟩:=ar E
   have p1:(1:Int).toNat≤x8.length:=a_
   have p2:x8.length≤x8.length:=a_
   refine vr (iW ig (ao (H.Gt 6 z)) z z g11 g12) ?_
   refine ye (fZ (fun v w=>∃(k2:Nat)(x9 x10 x11:Int)(x12:ByteArray),k2≤k1∧bg.j1 (bg.l0 k2) k2 l1 l2 l3 x4 x6 x7 x9 x10 x11 x12=some r∧v= .string x12∧St (Rs.env).fp w0 w [.gd b2 m1 l2,.lv,.blk b3 #[pt b2,ii x9,ii x10,ii x11,ii x4,ii x6,sn,sn] 62,.mf b4 [(.string dJ,.func (.func 32) #[pt b3] #[]),(.string dK,.func (.func 33) #[pt b3] #[]),(.string dT,.func (.func 34) #[pt b3] #[]),(.string dU,.func (.func 35) #[pt b3] #[]),(.string dV,.func (.func 36) #[pt b3] #[]),(.string dW,.func (.func 37) #[pt b3] #[]),(.string dS,.func (.func 38) #[pt b3] #[]),(.string ez,.func (.func 39) #[pt b3] #[]),(.string eA,.func (.func 40) #[pt b3] #[]),(.string eB,.func (.func 41) #[pt b3] #[])],.own .str 9 v1 l1,.df b1 v3 (sb l3),.own .str 9 v4 x8]) ?_ ?_)
   ·refine(qw 41 [pt b3,bz v4 ((1:Int).toNat) x8.length 1] z Od Tryz.func32 z z z z (rg (va (.string kB) (nl (rg (vm (bz v4 ((1:Int).toNat) x8.length 1) ?_))))))
    refine ye (YN xc H 1 E z (fun _ h=>fR.calls (H.Gt 1 z) (H.cb 6 1 z z z (Rd.bz (ao (H.Gt 6 z)) p1 p2)) h) (fun x13 E v5 w H=>vr cz (vr (aX z z) (vr (aX z z) (va v5 (va (.bool x13.2) (nl (ae (rg (vm (.bool x13.2) (vr (cp z) (vm (.bool (!x13.2)) ?_))))))))))))
    rcases bR (!x13.2)with c4|c4
    ·have E:=iT c4 E
     refine ow c4 z (ow c4 z (ow c4 z (vr (pT (.bool true) z z c4) (nl (cl z (rg (va (.string cO) (nl (aj ?_)))))))))
     exact(aL ⟨.inl z,.string cO,tk0 z ⟨ba z (ad ai) z,k1,_,_,_,_,aI _,E,z,H.ag [0,1,2,3,4,5,6] z z⟩⟩)
    have E:=iF c4 E
    refine oo c4 z (mv v5 z) (oo c4 z (aY gK (ao (H.Gt 7 z)) z) (oo c4 z (cx z z) (vr (pF (.bool (!decide ((x13.1.length:Int)=3))) z z c4) (nl ?_))))
    refine aE E z (fun c5 E=>?_) (fun c5 E=>?_)
    ·refine rg (va (.string cO) (nl (aj ?_)))
     exact(aL ⟨.inl z,.string cO,tk0 z ⟨ba z (ad ai) z,k1,_,_,_,_,aI _,E,z,H.ag [0,1,2,3,4,5,6] z z⟩⟩)
    refine aA (ab (ae (cd (ds:=[]) bZ H z z ?_)))
    have H:=H.drew
    refine wm 0 z H v5 ?_
    obtain⟨⟨g13,g14⟩,E⟩:=ar E
    refine wz 1 z H (fun w H=>bo gl (ao (H.Gt 7 z)) z z g13 g14) (wz 2 z H (fun w H=>bq bf (ao (H.Gt 7 z)) g13 g14 z) (wm 3 z H v5 ?_))
    obtain⟨⟨g15,g16⟩,E⟩:=ar E
    refine wz 4 z H (fun w H=>bo gl (ao (H.Gt 7 z)) z z g15 g16) (wz 5 z H (fun w H=>bq bf (ao (H.Gt 7 z)) g15 g16 z) (wm 6 z H v5 ?_))
    obtain⟨⟨g17,g18⟩,E⟩:=ar E
    refine wz 7 z H (fun w H=>bo gl (ao (H.Gt 7 z)) z z g17 g18) (wz 8 z H (fun w H=>bq bf (ao (H.Gt 7 z)) g17 g18 z) (wg 9 z H (cf (cs:=[ii (at_ 0 x13.1 0),ii (at_ 0 x13.1 1),ii (at_ 0 x13.1 2)]) xb z) (wo 10 z (cr rU H (fun b5 w H=>⟨fun _=>H.ag [0,1,2,3,4,5,6,7] z z,wo 11 z (cy qj H 8 z z z z z z (fun w H=>⟨fun _=>H.ag [0,1,2,3,4,5,6,7] z z,wd (ab (ae (rg (vr (bp (l:=[ii (at_ 0 x13.1 0),ii (at_ 0 x13.1 1),ii (at_ 0 x13.1 2)]) cv (H.Gt 8 z) z z z) ?_))))⟩))⟩)))))
    refine ye (E9 On H E (fun _ h=>dh.calls h) (fun x14 E w H=>?_))
    have H:St _ _ _ [_,_,_,_,_,_,_,_,_]:=H
    refine va (.int .u16 x14) (nl (rg (vm (.int .u16 x14) (vr (cx z z) (nl ?_)))))
    refine aE E z (fun c6 E=>?_) (fun c6 E=>?_)
    ·refine rg (vm (.int .u16 x14) ?_)
     refine ye (YL rS H 1 E z (fun _ h=>jT.calls (H.Gt 1 z) h) (fun x15 E w H=>va (.string x15) (nl (aj ?_))))
     exact(aL ⟨.inl z,.string x15,tk0 z ⟨ba z (ad ai) z,k1,_,_,_,_,aI _,E,z,H.ag [0,1,2,3,4,5,6] z z⟩⟩)
    refine aA (ab (rg (vm (pt b3) (vr (bp (l:=[ii (at_ 0 x13.1 0),ii (at_ 0 x13.1 1),ii (at_ 0 x13.1 2)]) cv (H.Gt 8 z) z z z) (vr (bw z) (vr (az uf z) (s_ (cy qj H 2 z z z z z z (fun w H=>nl (rg (va (.string mZ) (nl (aj ?_)))))))))))))
    exact⟨.inl z,.string mZ,tk0 z ⟨ba z (ad ai) z,k1,_,_,_,_,aI _,E,z,H.ag [0,1,2,3,4,5,6] z z⟩⟩
   rintro _ w ⟨k2,x9,x10,x11,x12,hk3,E,hv_,H⟩
   have hv_:=hv_.symm
   subst hv_
   unfold bg.j1 at E
   refine va (.string x12) (nl (aH (vm (.string x12) ?_)))
   obtain⟨g19,E⟩:=ar E
   refine vr (cJ z z g19) ?_
   obtain⟨g20,E⟩:=ar E
   refine ye (ma H 5 z ot z z g20 (fun v6 w H=>aK (aR (ab (aH (vr (aO z z) (vm (ii (I W (x7+1))) (aK ?_))))))))
   exact⟨k2,a_,_,_,_,_,_,_,_,_,_,_,_,a_,E,aD ⟨z,z,z,z,z,z,z,acu⟩,H.ag [0,1,2,3,4,5] z z⟩
  have E:=iF c3 E
  rcases bR (decide (at_ ByteArray.empty x8 0=dK))with c7|c7
  ·have E:=iT c7 E
   refine vr (ou Tryz.underlying9 Tryz.underlying64 oy (H.Gt 3 z) z z z (by simp only[ψ,Bv,kt,c3,c7,EK,U_])) (vr (sg (.func (.func 33) #[pt b3] #[]) z) (nl (rg (vr (mv (.func (.func 33) #[pt b3] #[]) z) (vr (qh Tryz.underlying63 z z z) (nl (cl z (aH (vr (mv (.func (.func 33) #[pt b3] #[]) z) (vr (mv v4 z) ?_))))))))))
   obtain⟨⟨g21,g22⟩,E⟩:=ar E
   have p3:(1:Int).toNat≤x8.length:=a_
   have p4:x8.length≤x8.length:=a_
   refine vr (iW ig (ao (H.Gt 6 z)) z z g21 g22) ?_
   refine ye (fZ (fun v w=>∃(k3:Nat)(x16 x17:Int)(x18:ByteArray),k3≤k1∧bg.j2 (bg.l0 k3) k3 l1 l2 l3 x1 x2 x3 x7 x16 x17 x18=some r∧v= .string x18∧St (Rs.env).fp w0 w [.gd b2 m1 l2,.lv,.blk b3 #[pt b2,ii x1,ii x2,ii x3,ii x16,ii x17,sn,sn] 62,.mf b4 [(.string dJ,.func (.func 32) #[pt b3] #[]),(.string dK,.func (.func 33) #[pt b3] #[]),(.string dT,.func (.func 34) #[pt b3] #[]),(.string dU,.func (.func 35) #[pt b3] #[]),(.string dV,.func (.func 36) #[pt b3] #[]),(.string dW,.func (.func 37) #[pt b3] #[]),(.string dS,.func (.func 38) #[pt b3] #[]),(.string ez,.func (.func 39) #[pt b3] #[]),(.string eA,.func (.func 40) #[pt b3] #[]),(.string eB,.func (.func 41) #[pt b3] #[])],.own .str 9 v1 l1,.df b1 v3 (sb l3),.own .str 9 v4 x8]) ?_ ?_)
   ·refine(qw 38 [pt b3,bz v4 ((1:Int).toNat) x8.length 1] z Oe Tryz.func33 z z z z (rg (va (.string kB) (nl (rg (vm (bz v4 ((1:Int).toNat) x8.length 1) ?_))))))
    refine ye (YN xc H 1 E z (fun _ h=>fR.calls (H.Gt 1 z) (H.cb 6 1 z z z (Rd.bz (ao (H.Gt 6 z)) p3 p4)) h) (fun x19 E v8 w H=>vr cz (vr (aX z z) (vr (aX z z) (va v8 (va (.bool x19.2) (nl (ae (rg (vm (.bool x19.2) (vr (cp z) (vm (.bool (!x19.2)) ?_))))))))))))
    rcases bR (!x19.2)with c8|c8
    ·have E:=iT c8 E
     refine ow c8 z (ow c8 z (ow c8 z (vr (pT (.bool true) z z c8) (nl (cl z (rg (va (.string cO) (nl (aj ?_)))))))))
     exact(aL ⟨.inl z,.string cO,tk0 z ⟨ba z (ad ai) z,k1,_,_,_,aI _,E,z,H.ag [0,1,2,3,4,5,6] z z⟩⟩)
    have E:=iF c8 E
    refine oo c8 z (mv v8 z) (oo c8 z (aY gK (ao (H.Gt 7 z)) z) (oo c8 z (cx z z) (vr (pF (.bool (!decide ((x19.1.length:Int)=2))) z z c8) (nl ?_))))
    refine aE E z (fun c9 E=>?_) (fun c9 E=>?_)
    ·refine rg (va (.string cO) (nl (aj ?_)))
     exact(aL ⟨.inl z,.string cO,tk0 z ⟨ba z (ad ai) z,k1,_,_,_,aI _,E,z,H.ag [0,1,2,3,4,5,6] z z⟩⟩)
    refine aA (ab (ae (cd (ds:=[]) bZ H z z ?_)))
    have H:=H.drew
    refine wm 0 z H v8 ?_
    obtain⟨⟨g25,g26⟩,E⟩:=ar E
    refine wz 1 z H (fun w H=>bo gl (ao (H.Gt 7 z)) z z g25 g26) (wz 2 z H (fun w H=>bq bf (ao (H.Gt 7 z)) g25 g26 z) (wm 3 z H v8 ?_))
    obtain⟨⟨g31,g32⟩,E⟩:=ar E
    refine wz 4 z H (fun w H=>bo gl (ao (H.Gt 7 z)) z z g31 g32) (wz 5 z H (fun w H=>bq bf (ao (H.Gt 7 z)) g31 g32 z) (wg 6 z H (cf (cs:=[ii (at_ 0 x19.1 0),ii (at_ 0 x19.1 1)]) qT z) (wo 7 z (cr q9 H (fun b6 w H=>⟨fun _=>H.ag [0,1,2,3,4,5,6,7] z z,wo 8 z (cy lz H 8 z z z z z z (fun w H=>⟨fun _=>H.ag [0,1,2,3,4,5,6,7] z z,wd (ab (ae (rg (vr (bp (l:=[ii (at_ 0 x19.1 0),ii (at_ 0 x19.1 1)]) gH (H.Gt 8 z) z z z) ?_))))⟩))⟩)))))
    refine ye (E9 Oo H E (fun _ h=>jS.calls h) (fun x20 E w H=>?_))
    have H:St _ _ _ [_,_,_,_,_,_,_,_,_]:=H
    refine va (.int .u16 x20) (nl (rg (vm (.int .u16 x20) (vr (cx z z) (nl ?_)))))
    refine aE E z (fun c10 E=>?_) (fun c10 E=>?_)
    ·refine rg (vm (.int .u16 x20) ?_)
     refine ye (YL rS H 1 E z (fun _ h=>jT.calls (H.Gt 1 z) h) (fun x21 E w H=>va (.string x21) (nl (aj ?_))))
     exact(aL ⟨.inl z,.string x21,tk0 z ⟨ba z (ad ai) z,k1,_,_,_,aI _,E,z,H.ag [0,1,2,3,4,5,6] z z⟩⟩)
    refine aA (ab (rg (vm (pt b3) (vr (bp (l:=[ii (at_ 0 x19.1 0),ii (at_ 0 x19.1 1)]) gH (H.Gt 8 z) z z z) (vr (bw z) (vr (az xg z) (s_ (cy lz H 2 z z z z z z (fun w H=>nl (rg (va (.string mZ) (nl (aj ?_)))))))))))))
    exact⟨.inl z,.string mZ,tk0 z ⟨ba z (ad ai) z,k1,_,_,_,aI _,E,z,H.ag [0,1,2,3,4,5,6] z z⟩⟩
   rintro _ w ⟨k3,x16,x17,x18,hk4,E,hv_,H⟩
   have hv_:=hv_.symm
   subst hv_
   unfold bg.j2 at E
   refine va (.string x18) (nl (aH (vm (.string x18) ?_)))
   obtain⟨g33,E⟩:=ar E
   refine vr (cJ z z g33) ?_
   obtain⟨g34,E⟩:=ar E
   refine ye (ma H 5 z ot z z g34 (fun v9 w H=>aK (aR (ab (aH (vr (aO z z) (vm (ii (I W (x7+1))) (aK ?_))))))))
   exact⟨k3,a_,_,_,_,_,_,_,_,_,_,_,_,a_,E,aD ⟨z,z,z,z,z,z,z,acu⟩,H.ag [0,1,2,3,4,5] z z⟩
  have E:=iF c7 E
  rcases bR (decide (at_ ByteArray.empty x8 0=dT))with c11|c11
  ·have E:=iT c11 E
   refine vr (ou Tryz.underlying9 Tryz.underlying64 oy (H.Gt 3 z) z z z (by simp only[ψ,Bv,kt,c3,c7,c11,EK,U_])) (vr (sg (.func (.func 34) #[pt b3] #[]) z) (nl (rg (vr (mv (.func (.func 34) #[pt b3] #[]) z) (vr (qh Tryz.underlying63 z z z) (nl (cl z (aH (vr (mv (.func (.func 34) #[pt b3] #[]) z) (vr (mv v4 z) ?_))))))))))
   obtain⟨⟨g35,g36⟩,E⟩:=ar E
   have p5:(1:Int).toNat≤x8.length:=a_
   have p6:x8.length≤x8.length:=a_
   refine vr (iW ig (ao (H.Gt 6 z)) z z g35 g36) ?_
   refine ye (fZ (fun v w=>∃(k4:Nat)(l4:List Int)(x22:ByteArray)(m2:DS),k4≤k1∧bg.j3 (bg.l0 k4) k4 l1 l3 x1 x2 x3 x4 x6 x7 l4 x22=some r∧v= .string x22∧St (Rs.env).fp w0 w [.gd b2 m2 l4,.lv,.blk b3 #[pt b2,ii x1,ii x2,ii x3,ii x4,ii x6,sn,sn] 62,.mf b4 [(.string dJ,.func (.func 32) #[pt b3] #[]),(.string dK,.func (.func 33) #[pt b3] #[]),(.string dT,.func (.func 34) #[pt b3] #[]),(.string dU,.func (.func 35) #[pt b3] #[]),(.string dV,.func (.func 36) #[pt b3] #[]),(.string dW,.func (.func 37) #[pt b3] #[]),(.string dS,.func (.func 38) #[pt b3] #[]),(.string ez,.func (.func 39) #[pt b3] #[]),(.string eA,.func (.func 40) #[pt b3] #[]),(.string eB,.func (.func 41) #[pt b3] #[])],.own .str 9 v1 l1,.df b1 v3 (sb l3),.own .str 9 v4 x8]) ?_ ?_)
   ·refine(qw 44 [pt b3,bz v4 ((1:Int).toNat) x8.length 1] z Og Tryz.func34 z z z z (rg (va (.string kB) (nl (ae (rg (vm (bz v4 ((1:Int).toNat) x8.length 1) (vr (aY na (Rd.bz (ao (H.Gt 6 z)) p5 p6) z) (vr (cx z z) (nl ?_))))))))))
    refine aE E z (fun c12 E=>?_) (fun c12 E=>?_)
    ·refine rg (va (.string cO) (nl (aj ?_)))
     exact(aL ⟨.inl z,.string cO,tk0 z ⟨ba z (ad ai) z,k1,_,_,_,aI _,E,z,H⟩⟩)
    refine aA (ab (rg (vm (bz v4 ((1:Int).toNat) x8.length 1) ?_)))
    obtain⟨⟨g37,g38⟩,E⟩:=ar E
    refine vr (bo ig (Rd.bz (ao (H.Gt 6 z)) p5 p6) z z g37 g38) (vr (lO (e:=.str) (j:=0) qi (Rd.bz (ao (H.Gt 6 z)) p5 p6) (ga ByteArray.empty g37 g38) z z) ?_)
    refine ye (YM xd H E (fun _ h=>fx.calls h) (fun x23 E v10 w H=>vr cz (vr (aX z z) (vr (aX z z) (va v10 (va (.bool x23.2) (nl (ae (rg (vm (.bool x23.2) (vr (cp z) (nl ?_))))))))))))
    refine aE E z (fun c13 E=>?_) (fun c13 E=>?_)
    ·refine rg (va (.string cO) (nl (aj ?_)))
     exact(aL ⟨.inl z,.string cO,tk0 z ⟨ba z (ad ai) z,k1,_,_,_,aI _,E,z,H.ag [0,1,2,3,4,5,6] z z⟩⟩)
    refine aA (ab (ae (eZ (ds:=[]) (fun w=>∃(d':DS)(n':List Int),St (Rs.env).fp w0 w [.gd b2 d' n',.lv,.blk b3 #[pt b2,ii x1,ii x2,ii x3,ii x4,ii x6,sn,sn] 62,.mf b4 [(.string dJ,.func (.func 32) #[pt b3] #[]),(.string dK,.func (.func 33) #[pt b3] #[]),(.string dT,.func (.func 34) #[pt b3] #[]),(.string dU,.func (.func 35) #[pt b3] #[]),(.string dV,.func (.func 36) #[pt b3] #[]),(.string dW,.func (.func 37) #[pt b3] #[]),(.string dS,.func (.func 38) #[pt b3] #[]),(.string ez,.func (.func 39) #[pt b3] #[]),(.string eA,.func (.func 40) #[pt b3] #[]),(.string eB,.func (.func 41) #[pt b3] #[])],.own .str 9 v1 l1,.df b1 v3 (sb l3),.own .str 9 v4 x8,.own (.int .u8) 5 v10 x23.1]) bZ H z z ?_)))
    have H:=H.drew
    refine wm 0 z ⟨_,_,H⟩ (pt b3) (wg 1 z ⟨_,_,H⟩ (bw z) (wg 2 z ⟨_,_,H⟩ (az xf z) (wz 3 z ⟨_,_,H⟩ (fun w ⟨d',n',H⟩=>av xm z (ak (H.Gt 2 z) z)) (wm 4 z ⟨_,_,H⟩ (pt b3) (wg 5 z ⟨_,_,H⟩ (bw z) (wg 6 z ⟨_,_,H⟩ (az uf z) (wz 7 z ⟨_,_,H⟩ (fun w ⟨d',n',H⟩=>bp (l:=[ii x1,ii x2,ii x3]) cv (H.Gt 2 z) z z z) (wm 8 z ⟨_,_,H⟩ (pt b3) (wg 9 z ⟨_,_,H⟩ (bw z) (wg 10 z ⟨_,_,H⟩ (az xg z) (wz 11 z ⟨_,_,H⟩ (fun w ⟨d',n',H⟩=>bp (l:=[ii x4,ii x6]) gH (H.Gt 2 z) z z z) (wm 12 z ⟨_,_,H⟩ v10 ?_))))))))))))
    obtain⟨x24,E10,E⟩:=ay E
    refine wo 13 z (au Oq z ((qO.calls (H.Gt 0 z) (H.cb 7 0 z z z (ao (H.Gt 7 z))) E10).mono ?_))
    rintro _ w ⟨m3,v11,rfl,K⟩
    have H:=H.aV 0 z K
    refine⟨_,z,⟨fun _=>⟨_,_,H.ag [0,1,2,3,4,5,6,7] z z⟩,wg 14 z ⟨_,_,H.ag [0,1,2,3,4,5,6,7] z z⟩ cz (wg 15 z ⟨_,_,H.ag [0,1,2,3,4,5,6,7] z z⟩ (aX z z) (wg 16 z ⟨_,_,H.ag [0,1,2,3,4,5,6,7] z z⟩ (aX z z) (wy 17 z (⟨_,_,H.ag [0,1,2,3,4,5,6,7] z z⟩) (sg v11 z) (wg 18 z ⟨_,_,H.ag [0,1,2,3,4,5,6,7] z z⟩ (sg (.int .u16 x24.1.2) z) (wd (ab (ae (rg (vm (.int .u16 x24.1.2) (vr (cx z z) (nl ?_)))))))))))⟩⟩
    refine aE E z (fun c14 E=>?_) (fun c14 E=>?_)
    ·refine rg (vm (.int .u16 x24.1.2) ?_)
     refine ye (YL rS H 1 E z (fun _ h=>jT.calls (H.Gt 1 z) h) (fun x25 E w H=>va (.string x25) (nl (aj ?_))))
     exact(aL ⟨.inl z,.string x25,tk0 z ⟨ba z (ad ai) z,k1,_,_,_,aI _,E,z,H.ag [0,1,2,3,4,5,6] z z⟩⟩)
    refine aA (ab (rg (vm v11 ?_)))
    obtain⟨x26,E12,E⟩:=ay E
    refine ye (au qg z ((eM.calls (my (H.Gt 0 z)) (qd (H.cb 8 0 z z z (ao (H.Gt 8 z)))) E12).mono ?_))
    rintro _ w ⟨rfl,K⟩
    have H:=H.oU 0 z K
    refine⟨_,z,va (.string x26) (nl (aj ?_))⟩
    exact⟨.inl z,.string x26,tk0 z ⟨ba z (ad ai) z,k1,_,_,_,aI _,E,z,H.ag [0,1,2,3,4,5,6] z z⟩⟩
   rintro _ w ⟨k4,l4,x22,m2,hk5,E,hv_,H⟩
   have hv_:=hv_.symm
   subst hv_
   unfold bg.j3 at E
   refine va (.string x22) (nl (aH (vm (.string x22) ?_)))
   obtain⟨g39,E⟩:=ar E
   refine vr (cJ z z g39) ?_
   obtain⟨g40,E⟩:=ar E
   refine ye (ma H 5 z ot z z g40 (fun v12 w H=>aK (aR (ab (aH (vr (aO z z) (vm (ii (I W (x7+1))) (aK ?_))))))))
   exact⟨k4,a_,_,_,_,_,_,_,_,_,_,_,_,a_,E,aD ⟨z,z,z,z,z,z,z,acu⟩,H.ag [0,1,2,3,4,5] z z⟩
  have E:=iF c11 E
  rcases bR (decide (at_ ByteArray.empty x8 0=dU))with c15|c15
  ·have E:=iT c15 E
   refine vr (ou Tryz.underlying9 Tryz.underlying64 oy (H.Gt 3 z) z z z (by simp only[ψ,Bv,kt,c3,c7,c11,c15,EK,U_])) (vr (sg (.func (.func 35) #[pt b3] #[]) z) (nl (rg (vr (mv (.func (.func 35) #[pt b3] #[]) z) (vr (qh Tryz.underlying63 z z z) (nl (cl z (aH (vr (mv (.func (.func 35) #[pt b3] #[]) z) (vr (mv v4 z) ?_))))))))))
   obtain⟨⟨g41,g42⟩,E⟩:=ar E
   have p7:(1:Int).toNat≤x8.length:=a_
   have p8:x8.length≤x8.length:=a_
   refine vr (iW ig (ao (H.Gt 6 z)) z z g41 g42) ?_
   refine ye (fZ (fun v w=>∃(k5:Nat)(l5:List Int)(x27:ByteArray)(m4:DS),k5≤k1∧bg.j4 (bg.l0 k5) k5 l1 l3 x1 x2 x3 x4 x6 x7 l5 x27=some r∧v= .string x27∧St (Rs.env).fp w0 w [.gd b2 m4 l5,.lv,.blk b3 #[pt b2,ii x1,ii x2,ii x3,ii x4,ii x6,sn,sn] 62,.mf b4 [(.string dJ,.func (.func 32) #[pt b3] #[]),(.string dK,.func (.func 33) #[pt b3] #[]),(.string dT,.func (.func 34) #[pt b3] #[]),(.string dU,.func (.func 35) #[pt b3] #[]),(.string dV,.func (.func 36) #[pt b3] #[]),(.string dW,.func (.func 37) #[pt b3] #[]),(.string dS,.func (.func 38) #[pt b3] #[]),(.string ez,.func (.func 39) #[pt b3] #[]),(.string eA,.func (.func 40) #[pt b3] #[]),(.string eB,.func (.func 41) #[pt b3] #[])],.own .str 9 v1 l1,.df b1 v3 (sb l3),.own .str 9 v4 x8]) ?_ ?_)
   ·refine(qw 66 [pt b3,bz v4 ((1:Int).toNat) x8.length 1] z Oh Tryz.func35 z z z z (rg (va (.string kB) (nl (ae (rg (vm (bz v4 ((1:Int).toNat) x8.length 1) (vr (aY na (Rd.bz (ao (H.Gt 6 z)) p7 p8) z) (vr (cg z z) (nl ?_))))))))))
    refine aE E z (fun c16 E=>?_) (fun c16 E=>?_)
    ·refine rg (va (.string cO) (nl (aj ?_)))
     exact(aL ⟨.inl z,.string cO,tk0 z ⟨ba z (ad ai) z,k1,_,_,_,aI _,E,z,H⟩⟩)
    refine aA (ab (rg (vm (bz v4 ((1:Int).toNat) x8.length 1) ?_)))
    obtain⟨⟨g43,g44⟩,E⟩:=ar E
    refine vr (bo ig (Rd.bz (ao (H.Gt 6 z)) p7 p8) z z g43 g44) (vr (lO (e:=.str) (j:=0) qi (Rd.bz (ao (H.Gt 6 z)) p7 p8) (ga ByteArray.empty g43 g44) z z) ?_)
    refine ye (YM xd H E (fun _ h=>fx.calls h) (fun x28 E v13 w H=>vr cz (vr (aX z z) (vr (aX z z) (va v13 (va (.bool x28.2) (nl (rg (vm (bz v4 ((1:Int).toNat) x8.length 1) ?_)))))))))
    obtain⟨⟨g45,g46⟩,E⟩:=ar E
    have p9:(1:Int).toNat≤((x8.take x8.length).drop ((1:Int).toNat)).length:=a_
    have p10:((x8.take x8.length).drop ((1:Int).toNat)).length≤((x8.take x8.length).drop ((1:Int).toNat)).length:=a_
    refine vr (iW ig (Rd.bz (ao (H.Gt 6 z)) p7 p8) z z g45 g46) ?_
    refine ye (YN xc H 1 E z (fun _ h=>fR.calls (H.Gt 1 z) (H.cb 6 1 z z z (Rd.bz (Rd.bz (ao (H.Gt 6 z)) p7 p8) p9 p10)) h) (fun x29 E v14 w H=>vr cz (vr (aX z z) (vr (aX z z) (va v14 (va (.bool x29.2) (nl (ae (rg (vm (.bool x28.2) (vr (cp z) (vm (.bool (!x28.2)) ?_))))))))))))
    rcases bR (!x28.2)with c17|c17
    ·have E:=iT c17 E
     refine ow c17 z (ow c17 z (vr (pT (.bool true) z z c17) (nl (cl z (rg (va (.string cO) (nl (aj ?_))))))))
     exact(aL ⟨.inl z,.string cO,tk0 z ⟨ba z (ad ai) z,k1,_,_,_,aI _,E,z,H.ag [0,1,2,3,4,5,6] z z⟩⟩)
    have E:=iF c17 E
    refine oo c17 z (mv (.bool x29.2) z) (oo c17 z (cp z) (vr (pF (.bool (!x29.2)) z z c17) (nl ?_)))
    refine aE E z (fun c18 E=>?_) (fun c18 E=>?_)
    ·refine rg (va (.string cO) (nl (aj ?_)))
     exact(aL ⟨.inl z,.string cO,tk0 z ⟨ba z (ad ai) z,k1,_,_,_,aI _,E,z,H.ag [0,1,2,3,4,5,6] z z⟩⟩)
    refine aA (ab (ae (eZ (ds:=[]) (fun w=>∃(d':DS)(n':List Int),St (Rs.env).fp w0 w [.gd b2 d' n',.lv,.blk b3 #[pt b2,ii x1,ii x2,ii x3,ii x4,ii x6,sn,sn] 62,.mf b4 [(.string dJ,.func (.func 32) #[pt b3] #[]),(.string dK,.func (.func 33) #[pt b3] #[]),(.string dT,.func (.func 34) #[pt b3] #[]),(.string dU,.func (.func 35) #[pt b3] #[]),(.string dV,.func (.func 36) #[pt b3] #[]),(.string dW,.func (.func 37) #[pt b3] #[]),(.string dS,.func (.func 38) #[pt b3] #[]),(.string ez,.func (.func 39) #[pt b3] #[]),(.string eA,.func (.func 40) #[pt b3] #[]),(.string eB,.func (.func 41) #[pt b3] #[])],.own .str 9 v1 l1,.df b1 v3 (sb l3),.own .str 9 v4 x8,.own (.int .u8) 5 v13 x28.1,.own (.int .i64) 3 v14 x29.1]) bZ H z z ?_)))
    have H:=H.drew
    refine wm 0 z ⟨_,_,H⟩ (pt b3) (wg 1 z ⟨_,_,H⟩ (bw z) (wg 2 z ⟨_,_,H⟩ (az xf z) (wz 3 z ⟨_,_,H⟩ (fun w ⟨d',n',H⟩=>av xm z (ak (H.Gt 2 z) z)) (wm 4 z ⟨_,_,H⟩ (pt b3) (wg 5 z ⟨_,_,H⟩ (bw z) (wg 6 z ⟨_,_,H⟩ (az uf z) (wz 7 z ⟨_,_,H⟩ (fun w ⟨d',n',H⟩=>bp (l:=[ii x1,ii x2,ii x3]) cv (H.Gt 2 z) z z z) (wm 8 z ⟨_,_,H⟩ (pt b3) (wg 9 z ⟨_,_,H⟩ (bw z) (wg 10 z ⟨_,_,H⟩ (az xg z) (wz 11 z ⟨_,_,H⟩ (fun w ⟨d',n',H⟩=>bp (l:=[ii x4,ii x6]) gH (H.Gt 2 z) z z z) (wm 12 z ⟨_,_,H⟩ v13 (wm 13 z ⟨_,_,H⟩ v14 ?_)))))))))))))
    obtain⟨x30,E15,E⟩:=ay E
    refine lZ (i:=14) (j:=18) (li:=tf 15 21) (lj:=#[true,true,true,true,true,true,true,true,true,true,true,true,true,true,false,false,false,false,true,false,false]) z z z z z z d_ ?_ ?_
    ·refine(au CB z ((mi.calls (H.Gt 0 z) (H.cb 7 0 z z z (ao (H.Gt 7 z))) (H.cb 8 0 z z z (ao (H.Gt 8 z))) E15).mono ?_))
     rintro _ w ⟨m5,v15,v16,v17,rfl,K⟩
     have H:=H.aV 0 z K
     refine⟨_,z,⟨fun _=>⟨_,_,H.ag [0,1,2,3,4,5,6,7,8] z z⟩,wg 15 z (⟨_,_,H.ag [0,1,2,3,4,5,6,7,8] z z⟩) cz (wg 16 z (⟨_,_,H.ag [0,1,2,3,4,5,6,7,8] z z⟩) (aX z z) (wg 17 z (⟨_,_,H.ag [0,1,2,3,4,5,6,7,8] z z⟩) (aX z z) (wo 18 z (cr vB H (fun b7 w H=>⟨fun _=>⟨_,_,H.ag [0,1,2,3,4,5,6,7,8] z z⟩,?_⟩)))))⟩⟩
     have H:St _ _ _ [_,_,_,_,_,_,_,_,_,_,_,_,_]:=H
     obtain⟨p11,n1,c19,rfl⟩:=bX (H.Gt 9 z)
     obtain⟨p12,n2,c20,rfl⟩:=bX (H.Gt 10 z)
     obtain⟨p13,n3,c21,rfl⟩:=bX (H.Gt 11 z)
     refine wo 19 z (cy sR H 12 z z z z z z (fun w H=>⟨fun _=>⟨_,_,H.ag [0,1,2,3,4,5,6,7,8] z z⟩,wg 20 z ⟨_,_,H.ag [0,1,2,3,4,5,6,7,8] z z⟩ (sg (.int .u16 x30.1.2) z) (wd (ab (ae (rg (vm (.int .u16 x30.1.2) (vr (cx z z) (nl ?_)))))))⟩))
     refine aE E z (fun c22 E=>?_) (fun c22 E=>?_)
     ·refine rg (vm (.int .u16 x30.1.2) ?_)
      refine ye (YL rS H 1 E z (fun _ h=>jT.calls (H.Gt 1 z) h) (fun x31 E w H=>va (.string x31) (nl (aj ?_))))
      exact(aL ⟨.inl z,.string x31,tk0 z ⟨ba z (ad ai) z,k1,_,_,_,aI _,E,z,H.ag [0,1,2,3,4,5,6] z z⟩⟩)
     refine aA (ab (ae (cd (ds:=[]) bZ H z z ?_)))
     have H:=H.drew
     refine wg 0 z H (az CE z) (wz 1 z H (fun w H=>av bQ z (ak (H.Gt 12 z) z)) (wg 3 z H (az CD z) (wz 4 z H (fun w H=>av bQ z (ak (H.Gt 12 z) z)) (wg 6 z H (az CF z) (wz 7 z H (fun w H=>av eU z (ak (H.Gt 12 z) z)) ?_)))))
     obtain⟨x32,E17,E⟩:=ay E
     refine wo 2 z (au qg z ((eM.calls (my (H.Gt 0 z)) (qd (H.cb 10 0 z z z (ao (H.Gt 10 z)))) E17).mono ?_))
     rintro _ w ⟨rfl,K⟩
     have H:=H.oU 0 z K
     refine⟨_,z,⟨fun _=>H.ag [0,1,2,3,4,5,6,7,8,9,10,11,12] z z,?_⟩⟩
     obtain⟨x33,E18,E⟩:=ay E
     refine wo 5 z (au qg z ((eM.calls (my (H.Gt 0 z)) (qd (H.cb 9 0 z z z (ao (H.Gt 9 z)))) E18).mono ?_))
     rintro _ w ⟨rfl,K⟩
     have H:=H.oU 0 z K
     refine⟨_,z,⟨fun _=>H.ag [0,1,2,3,4,5,6,7,8,9,10,11,12] z z,?_⟩⟩
     refine wo 8 z (YL xe H 1 E z (fun _ h=>bM.calls (H.Gt 1 z) (H.cb 11 1 z z z (ao (H.Gt 11 z))) h) (fun x34 E w H=>⟨fun _=>H.ag [0,1,2,3,4,5,6,7,8,9,10,11,12] z z,wo 9 z (cL (e:=.str) (l:=[x32,x33,x34]) ig H z f_ ⟨z,z,z,z,z,z,acu⟩ f_ (fun v19 w H=>⟨fun _=>H.ag [0,1,2,3,4,5,6,7,8,9,10,11,12] z z,?_⟩))⟩))
     have H:St _ _ _ [_,_,_,_,_,_,_,_,_,_,_,_,_,_]:=H
     refine wo 10 z (E9 CC H E (fun _ h=>kV.calls (H.own 13 z (ao (H.Gt 13 z))) h) (fun x35 E w H=>⟨fun _=>H.ag [0,1,2,3,4,5,6,7,8,9,10,11,12] z z,wg 11 z (H.ag [0,1,2,3,4,5,6,7,8,9,10,11,12] z z) (sg (.string x35) z) (wd (ab (aj ?_)))⟩))
     exact⟨.inl z,.string x35,tk0 z ⟨ba z (ad ai) z,k1,_,_,_,aI _,E,z,H.ag [0,1,2,3,4,5,6] z z⟩⟩
    refine(cr vB H (fun b7 w H=>⟨fun _=>⟨_,_,H.ag [0,1,2,3,4,5,6,7,8] z z⟩,wo 14 z (au CB z ((mi.calls (H.Gt 0 z) (H.cb 7 0 z z z (ao (H.Gt 7 z))) (H.cb 8 0 z z z (ao (H.Gt 8 z))) E15).mono ?_))⟩))
    rintro _ w ⟨m5,v15,v16,v17,rfl,K⟩
    have H:=H.aV 0 z K
    refine⟨_,z,⟨fun _=>⟨_,_,H.ag [0,1,2,3,4,5,6,7,8] z z⟩,?_⟩⟩
    have H:St (Rs.env).fp w0 _ [.gd b2 m5 x30.2,.lv,.blk b3 #[pt b2,ii x1,ii x2,ii x3,ii x4,ii x6,sn,sn] 62,.mf b4 [(.string dJ,.func (.func 32) #[pt b3] #[]),(.string dK,.func (.func 33) #[pt b3] #[]),(.string dT,.func (.func 34) #[pt b3] #[]),(.string dU,.func (.func 35) #[pt b3] #[]),(.string dV,.func (.func 36) #[pt b3] #[]),(.string dW,.func (.func 37) #[pt b3] #[]),(.string dS,.func (.func 38) #[pt b3] #[]),(.string ez,.func (.func 39) #[pt b3] #[]),(.string eA,.func (.func 40) #[pt b3] #[]),(.string eB,.func (.func 41) #[pt b3] #[])],.own .str 9 v1 l1,.df b1 v3 (sb l3),.own .str 9 v4 x8,.own (.int .u8) 5 v13 x28.1,.own (.int .i64) 3 v14 x29.1,.own (.int .u8) 5 v15 x30.1.1.1,.own (.int .u8) 5 v16 x30.1.1.2.1,.own (.int .i64) 3 v17 x30.1.1.2.2,.blk b7 #[sn,sn,sn] 33]:=H.ag [0,1,2,3,4,5,6,7,8,10,11,12,9] z z
    refine wg 15 z (⟨_,_,H.ag [0,1,2,3,4,5,6,7,8] z z⟩) cz (wg 16 z (⟨_,_,H.ag [0,1,2,3,4,5,6,7,8] z z⟩) (aX z z) (wg 17 z (⟨_,_,H.ag [0,1,2,3,4,5,6,7,8] z z⟩) (aX z z) ?_))
    have H:St _ _ _ [_,_,_,_,_,_,_,_,_,_,_,_,_]:=H
    obtain⟨p11,n1,c19,rfl⟩:=bX (H.Gt 9 z)
    obtain⟨p12,n2,c20,rfl⟩:=bX (H.Gt 10 z)
    obtain⟨p13,n3,c21,rfl⟩:=bX (H.Gt 11 z)
    refine wo 19 z (cy sR H 12 z z z z z z (fun w H=>⟨fun _=>⟨_,_,H.ag [0,1,2,3,4,5,6,7,8] z z⟩,wg 20 z ⟨_,_,H.ag [0,1,2,3,4,5,6,7,8] z z⟩ (sg (.int .u16 x30.1.2) z) (wd (ab (ae (rg (vm (.int .u16 x30.1.2) (vr (cx z z) (nl ?_)))))))⟩))
    refine aE E z (fun c22 E=>?_) (fun c22 E=>?_)
    ·refine rg (vm (.int .u16 x30.1.2) ?_)
     refine ye (YL rS H 1 E z (fun _ h=>jT.calls (H.Gt 1 z) h) (fun x31 E w H=>va (.string x31) (nl (aj ?_))))
     exact(aL ⟨.inl z,.string x31,tk0 z ⟨ba z (ad ai) z,k1,_,_,_,aI _,E,z,H.ag [0,1,2,3,4,5,6] z z⟩⟩)
    refine aA (ab (ae (cd (ds:=[]) bZ H z z ?_)))
    have H:=H.drew
    refine wg 0 z H (az CE z) (wz 1 z H (fun w H=>av bQ z (ak (H.Gt 12 z) z)) (wg 3 z H (az CD z) (wz 4 z H (fun w H=>av bQ z (ak (H.Gt 12 z) z)) (wg 6 z H (az CF z) (wz 7 z H (fun w H=>av eU z (ak (H.Gt 12 z) z)) ?_)))))
    obtain⟨x32,E17,E⟩:=ay E
    refine wo 2 z (au qg z ((eM.calls (my (H.Gt 0 z)) (qd (H.cb 10 0 z z z (ao (H.Gt 10 z)))) E17).mono ?_))
    rintro _ w ⟨rfl,K⟩
    have H:=H.oU 0 z K
    refine⟨_,z,⟨fun _=>H.ag [0,1,2,3,4,5,6,7,8,9,10,11,12] z z,?_⟩⟩
    obtain⟨x33,E18,E⟩:=ay E
    refine wo 5 z (au qg z ((eM.calls (my (H.Gt 0 z)) (qd (H.cb 9 0 z z z (ao (H.Gt 9 z)))) E18).mono ?_))
    rintro _ w ⟨rfl,K⟩
    have H:=H.oU 0 z K
    refine⟨_,z,⟨fun _=>H.ag [0,1,2,3,4,5,6,7,8,9,10,11,12] z z,?_⟩⟩
    refine wo 8 z (YL xe H 1 E z (fun _ h=>bM.calls (H.Gt 1 z) (H.cb 11 1 z z z (ao (H.Gt 11 z))) h) (fun x34 E w H=>⟨fun _=>H.ag [0,1,2,3,4,5,6,7,8,9,10,11,12] z z,wo 9 z (cL (e:=.str) (l:=[x32,x33,x34]) ig H z f_ ⟨z,z,z,z,z,z,acu⟩ f_ (fun v19 w H=>⟨fun _=>H.ag [0,1,2,3,4,5,6,7,8,9,10,11,12] z z,?_⟩))⟩))
    have H:St _ _ _ [_,_,_,_,_,_,_,_,_,_,_,_,_,_]:=H
    refine wo 10 z (E9 CC H E (fun _ h=>kV.calls (H.own 13 z (ao (H.Gt 13 z))) h) (fun x35 E w H=>⟨fun _=>H.ag [0,1,2,3,4,5,6,7,8,9,10,11,12] z z,wg 11 z (H.ag [0,1,2,3,4,5,6,7,8,9,10,11,12] z z) (sg (.string x35) z) (wd (ab (aj ?_)))⟩))
    exact⟨.inl z,.string x35,tk0 z ⟨ba z (ad ai) z,k1,_,_,_,aI _,E,z,H.ag [0,1,2,3,4,5,6] z z⟩⟩
   rintro _ w ⟨k5,l5,x27,m4,hk6,E,hv_,H⟩
   have hv_:=hv_.symm
   subst hv_
   unfold bg.j4 at E
   refine va (.string x27) (nl (aH (vm (.string x27) ?_)))
   obtain⟨g47,E⟩:=ar E
   refine vr (cJ z z g47) ?_
   obtain⟨g48,E⟩:=ar E
   refine ye (ma H 5 z ot z z g48 (fun v20 w H=>aK (aR (ab (aH (vr (aO z z) (vm (ii (I W (x7+1))) (aK ?_))))))))
   exact⟨k5,a_,_,_,_,_,_,_,_,_,_,_,_,a_,E,aD ⟨z,z,z,z,z,z,z,acu⟩,H.ag [0,1,2,3,4,5] z z⟩
  have E:=iF c15 E
  rcases bR (decide (at_ ByteArray.empty x8 0=dV))with c23|c23
  ·have E:=iT c23 E
   cases E
  have E:=iF c23 E
  rcases bR (decide (at_ ByteArray.empty x8 0=dW))with c24|c24
  ·have E:=iT c24 E
   cases E
  have E:=iF c24 E
  rcases bR (decide (at_ ByteArray.empty x8 0=dS))with c26|c26
  ·have E:=iT c26 E
   cases E
  have E:=iF c26 E
  rcases bR (decide (at_ ByteArray.empty x8 0=ez))with c27|c27
  ·have E:=iT c27 E
   cases E
  have E:=iF c27 E
  rcases bR (decide (at_ ByteArray.empty x8 0=eA))with c28|c28
  ·have E:=iT c28 E
   cases E
  have E:=iF c28 E
  rcases bR (decide (at_ ByteArray.empty x8 0=eB))with c29|c29
  ·have E:=iT c29 E
   cases E
  have E:=iF c29 E
  refine vr (ou Tryz.underlying9 Tryz.underlying64 oy (H.Gt 3 z) z z z (by simp only[ψ,Bv,kt,c3,c7,c11,c15,c23,c24,c26,c27,c28,c29,EK,U_])) (vr (sg (.nilFunc) z) (nl (rg (vr (mv (.nilFunc) z) (vr (OA Tryz.underlying63 z z z) (nl (bS z (aA (ab (aH (vr (mv (.string cO) z) ?_)))))))))))
  obtain⟨g49,E⟩:=ar E
  refine vr (cJ z z g49) ?_
  obtain⟨g50,E⟩:=ar E
  refine ye (ma H 5 z ot z z g50 (fun v21 w H=>aK (aR (ab (aH (vr (aO z z) (vm (ii (I W (x7+1))) (aK ?_))))))))
  exact⟨k1,bL _,_,_,_,_,_,_,_,_,_,_,_,bK hk2,E,aD ⟨z,z,z,z,z,z,z,acu⟩,H.ag [0,1,2,3,4,5] z z⟩
 refine bt (aM (aM (bu (ab (rg (ye (D9 H 5 z Om z (fun w H=>va (.string l3) (nl (aj ?_))))))))))
 cases E
 have H:=H.less 0 z my (fun _ h=>.inr (.inl h))
 exact⟨.inl z,_,tk0 z ⟨aB z (ad ai),z,H.bN 0 1 z z z⟩⟩
end Go.Proofs.YtmhkpafkadijgaaGreatDoor.Gw
