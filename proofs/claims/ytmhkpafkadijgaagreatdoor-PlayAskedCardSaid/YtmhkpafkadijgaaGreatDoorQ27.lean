/- A part of the proof of Rows.PlayAskedCardSaid; the conditions are that card's own. -/
import Derived.Test.YtmhkpafkadijgaaGreatDoorQ24
set_option linter.all false
set_option maxRecDepth 100000
set_option maxHeartbeats 4000000
namespace Go.Proofs.YtmhkpafkadijgaaGreatDoor.Gw
open Go Go.RowKit
variable[de]
open Go.IntKind (i8 i16 i32 i64 u8 u16 u32 u64)
open Tryz renaming prog → aa
theorem mb:Sl aa 22 5 1 1 (iu 0):=ja Tryz.underlying22 (by kernel_rfl) z (by decide)
def dp:ByteArray:=⟨#[]⟩
def j7:ByteArray:=⟨#[48,49,50,51,52,53,54,55,56,57,97,98,99,100,101,102,103,104,105,106,107,108,109,110,111,112,113,114,115,116,117,118,119,120,121,122]⟩
def uT:ByteArray:=⟨#[48,48,48,49,48,50,48,51,48,52,48,53,48,54,48,55,48,56,48,57,49,48,49,49,49,50,49,51,49,52,49,53,49,54,49,55,49,56,49,57,50,48,50,49,50,50,50,51,50,52,50,53,50,54,50,55,50,56,50,57,51,48,51,49,51,50,51,51,51,52,51,53,51,54,51,55,51,56,51,57,52,48,52,49,52,50,52,51,52,52,52,53,52,54,52,55,52,56,52,57,53,48,53,49,53,50,53,51,53,52,53,53,53,54,53,55,53,56,53,57,54,48,54,49,54,50,54,51,54,52,54,53,54,54,54,55,54,56,54,57,55,48,55,49,55,50,55,51,55,52,55,53,55,54,55,55,55,56,55,57,56,48,56,49,56,50,56,51,56,52,56,53,56,54,56,55,56,56,56,57,57,48,57,49,57,50,57,51,57,52,57,53,57,54,57,55,57,56,57,57]⟩
theorem su:((#[22]:Array TypeId)[0]?).bind Tryz.prog.underlying=some (.slice 5):=iD Tryz.underlying22
theorem EC:sx aa 229 65:=by show _=_;kernel_rfl
theorem Ej:En aa 138:=⟨_,_,Tryz.func138,by kernel_rfl,z⟩
theorem Ek:En aa 139:=⟨_,_,Tryz.func139,by kernel_rfl,z⟩
theorem oQ:Ar aa 229 65 1:=⟨_,Tryz.underlying229,by kernel_rfl⟩
theorem oT:Sz aa 5 1:=by show _=_;kernel_rfl
theorem Ep:En aa 94:=⟨_,_,Tryz.func94,by kernel_rfl,z⟩
theorem Es:En aa 97:=⟨_,_,Tryz.func97,by kernel_rfl,z⟩
theorem Em:En aa 65:=⟨_,_,Tryz.func65,by kernel_rfl,z⟩
def mc:ByteArray:=⟨#[45]⟩
theorem EB:Zr aa 70 #[.pointer none,sn]:=⟨.agg #[.pointer none,sn],by kernel_rfl,z⟩
theorem oS:Sc aa 5:=⟨_,Tryz.underlying5,z⟩
theorem yf:En aa 105:=⟨_,_,Tryz.func105,by kernel_rfl,z⟩
theorem yh:En aa 44:=⟨_,_,Tryz.func44,by kernel_rfl,z⟩
theorem El:En aa 45:=⟨_,_,Tryz.func45,by kernel_rfl,z⟩
theorem yk:((#[28]:Array TypeId)[0]?).bind Tryz.prog.underlying=some (.slice 3):=iD Tryz.underlying28
theorem uS:Sl aa 28 3 1 8 (ii 0):=ja Tryz.underlying28 (by kernel_rfl) z (by decide)
theorem sj:Sc aa 3:=⟨_,Tryz.underlying3,z⟩
theorem qx:En aa 10:=⟨_,_,Tryz.func10,by kernel_rfl,z⟩
theorem sk:Sl aa 65 9 1 16 (.string ByteArray.empty):=ja Tryz.underlying65 (by kernel_rfl) z (by decide)
theorem yg:En aa 110:=⟨_,_,Tryz.func110,by kernel_rfl,z⟩
def gX:ByteArray:=⟨#[32]⟩
def yj:ByteArray:=⟨#[101,114,114,111,114]⟩
theorem Eo:En aa 74:=⟨_,_,Tryz.func74,by kernel_rfl,z⟩
theorem EA:((#[65]:Array TypeId)[0]?).bind Tryz.prog.underlying=some (.slice 9):=iD Tryz.underlying65
theorem Ez:Sc aa 9:=⟨_,Tryz.underlying9,z⟩
theorem uR:((#[9]:Array TypeId)[0]?).bind Tryz.prog.underlying=some .string:=by show Option.bind (some 9) _=_;rw[aJ];exact Tryz.underlying9
def so:ByteArray:=⟨#[48,49,50,51,52,53,54,55,56,57]⟩
theorem Et:En aa 98:=⟨_,_,Tryz.func98,by kernel_rfl,z⟩
theorem Eu:En aa 99:=⟨_,_,Tryz.func99,by kernel_rfl,z⟩
theorem Ei:En aa 100:=⟨_,_,Tryz.func100,by kernel_rfl,z⟩
theorem yi:Tryz.prog.follows .mixedOrders=true:=by kernel_rfl
theorem Ew:Fa aa 24 0 0:=⟨_,_,Tryz.underlying24,z,z,0,by kernel_rfl⟩
theorem Ex:Fa aa 24 1 1:=⟨_,_,Tryz.underlying24,z,z,0,by kernel_rfl⟩
theorem Ey:Fa aa 24 2 2:=⟨_,_,Tryz.underlying24,z,z,0,by kernel_rfl⟩
def lf:ByteArray:=⟨#[99,111,100,101,32]⟩
def sr:ByteArray:=⟨#[10]⟩
def jA:ByteArray:=⟨#[48,49,50,51,52,53,54,55,56,57,97,98,99,100,101,102]⟩
def internal_strconv_small.f(a0:Int):Option (ByteArray):=bif decide (a0<10)then(an (decide ((0:Int)≤a0∧a0≤i64.wrap (a0+1)∧i64.wrap (a0+1)≤(j7.size:Int))) (some (ext j7 a0 (i64.wrap (a0+1)))))else(an (decide ((0:Int)≤i64.wrap (a0*2)∧i64.wrap (a0*2)≤i64.wrap (i64.wrap (a0*2)+2)∧i64.wrap (i64.wrap (a0*2)+2)≤(uT.size:Int))) (some (ext uT (i64.wrap (a0*2)) (i64.wrap (i64.wrap (a0*2)+2)))))
theorem internal_strconv_small.calls{w0:World}{a0:Int}{r:ByteArray}(E:internal_strconv_small.f a0=some r):
 Calls aa 94 #[ii a0] w0 fun e w'=>e= .returned (.string r)∧St no w0 w' []:=by
 have H:=St.nil no w0
 unfold internal_strconv_small.f at E
 refine aP (N:=15) (args:=[ii a0]) Tryz.func94 z z (by simp) ?_
 refine rg (va (.string dp) (nl (ae (rg (vm (ii a0) (vr (aZ z z) (nl ?_)))))))
 refine aE E z (fun c1 E=>?_) (fun c1 E=>?_)
 ·refine rg (vm (ii a0) (vm (ii a0) (vr (aO z z) ?_)))
  obtain⟨⟨g2,g3,g4⟩,E⟩:=ar E
  refine vr (uo Tryz.underlying9 z z z g2 g3 g4) (va (.string (ext j7 a0 (i64.wrap (a0+1)))) (nl (aj ?_)))
  cases E
  exact(aL ⟨.inl z,_,tk0 z ⟨aB z (ad ai),z,H.bs⟩⟩)
 ·refine aA (ab (rg (vm (ii a0) (vr (cF z z) (vm (ii a0) (vr (cF z z) (vr (aO z z) ?_)))))))
  obtain⟨⟨g5,g6,g7⟩,E⟩:=ar E
  refine vr (uo Tryz.underlying9 z z z g5 g6 g7) (va (.string (ext uT (i64.wrap (a0*2)) (i64.wrap (i64.wrap (a0*2)+2)))) (nl (aj ?_)))
  cases E
  exact⟨.inl z,_,tk0 z ⟨aB z (ad ai),z,H.bs⟩⟩
def rz.f(a0:Int):Option (Bool):=some (decide (bits .and .i64 a0 (i64.wrap (a0-1))=0))
theorem rz.calls{w0:World}{a0:Int}{r:Bool}(E:rz.f a0=some r):
 Calls aa 138 #[ii a0] w0 fun e w'=>e= .returned (.bool r)∧St no w0 w' []:=by
 have H:=St.nil no w0
 unfold rz.f at E
 refine aP (N:=8) (args:=[ii a0]) Tryz.func138 z z (by simp) ?_
 refine rg (va (.bool false) (nl (rg (vm (ii a0) (vm (ii a0) (vr (bV z z) (vr (jo z z) (vr (cg z z) (va (.bool (decide (bits .and .i64 a0 (i64.wrap (a0-1))=0))) (nl (aj ?_)))))))))))
 cases E
 exact⟨.inl z,_,tk0 z ⟨aB z (ad ai),z,H.bs⟩⟩
def cT.j0(k:Nat)(a0:Int)(x1:Bool):Option (ByteArray):=bif x1 then((internal_strconv_small.f a0).bind fun x2=>some x2)else(none)
def cT.j1(l0r:Int→Int→Int→List Int→Int→Int→Option ByteArray)(l1r:Int→Int→List Int→Int→Int→Option ByteArray)(k:Nat)(a0 a1 x1:Int):Option (ByteArray):=(rz.f a1).bind fun x2=>bif x2 then((kv.f (u64.wrap a1)).bind fun x3=>l0r a0 a1 x3 (List.replicate 65 (0:Int)) x1 65)else(l1r a0 a1 (List.replicate 65 (0:Int)) x1 65)
def cT.j3(k:Nat)(l1:List Int)(x1:Int):Option (ByteArray):=an (decide ((0:Int)≤x1∧x1<65)) (some (strOfNums (l1.drop x1.toNat)))
def cT.j2(k:Nat)(a0:Int)(l1:List Int)(x1:Int):Option (ByteArray):=bif decide (a0<0)then(an (decide ((0:Int)≤i64.wrap (x1-1)∧i64.wrap (x1-1)<65)) (cT.j3 k (l1.set (0+(i64.wrap (x1-1)).toNat) 45) (i64.wrap (x1-1))))else(cT.j3 k l1 x1)
mutual
def cT.l0:Nat→Int→Int→Int→List Int→Int→Int→Option (ByteArray)
 |0,_,_,_,_,_,_=>none
 |k+1,a0,a1,x1,l1,x2,x3=>bif decide (u64.wrap a1≤x2)then(an (decide ((0:Int)≤bits .and .u64 x2 (u64.wrap ((u64.wrap a1)-1))∧bits .and .u64 x2 (u64.wrap ((u64.wrap a1)-1))<(j7.size:Int))) (an (decide ((0:Int)≤i64.wrap (x3-1)∧i64.wrap (x3-1)<65)) (an (decide (0≤u64.wrap x1)) (cT.l0 k a0 a1 x1 (l1.set (0+(i64.wrap (x3-1)).toNat) (sat j7 (bits .and .u64 x2 (u64.wrap ((u64.wrap a1)-1))))) (Int.fdiv x2 (2^min (u64.wrap x1).toNat 64)) (i64.wrap (x3-1))))))else(an (decide ((0:Int)≤x2∧x2<(j7.size:Int))) (an (decide ((0:Int)≤i64.wrap (x3-1)∧i64.wrap (x3-1)<65)) (cT.j2 k a0 (l1.set (0+(i64.wrap (x3-1)).toNat) (sat j7 x2)) (i64.wrap (x3-1)))))
def cT.l1:Nat→Int→Int→List Int→Int→Int→Option (ByteArray)
 |0,_,_,_,_,_=>none
 |k+1,a0,a1,l2,x4,x5=>bif decide (u64.wrap a1≤x4)then(an (decide (u64.wrap a1≠0)) (an (decide ((0:Int)≤u64.wrap (x4-(u64.wrap (u64.wrap (Int.tdiv x4 (u64.wrap a1))*u64.wrap a1)))∧u64.wrap (x4-(u64.wrap (u64.wrap (Int.tdiv x4 (u64.wrap a1))*u64.wrap a1)))<(j7.size:Int))) (an (decide ((0:Int)≤i64.wrap (x5-1)∧i64.wrap (x5-1)<65)) (cT.l1 k a0 a1 (l2.set (0+(i64.wrap (x5-1)).toNat) (sat j7 (u64.wrap (x4-(u64.wrap (u64.wrap (Int.tdiv x4 (u64.wrap a1))*u64.wrap a1)))))) (u64.wrap (Int.tdiv x4 (u64.wrap a1))) (i64.wrap (x5-1))))))else(an (decide ((0:Int)≤x4∧x4<(j7.size:Int))) (an (decide ((0:Int)≤i64.wrap (x5-1)∧i64.wrap (x5-1)<65)) (cT.j2 k a0 (l2.set (0+(i64.wrap (x5-1)).toNat) (sat j7 x4)) (i64.wrap (x5-1)))))
end
def cT.f(k:Nat)(a0 a1:Int):Option (ByteArray):=bif decide (a1=10)then(bif decide (0≤a0)then(cT.j0 k a0 (decide (a0<100)))else(cT.j0 k a0 false))else(bif decide (a1<2)then(none)else(bif decide (36<a1)then(none)else(bif decide (a0<0)then(cT.j1 (cT.l0 k) (cT.l1 k) k a0 a1 (u64.wrap (-(u64.wrap a0))))else(cT.j1 (cT.l0 k) (cT.l1 k) k a0 a1 (u64.wrap a0)))))
theorem cT.calls{w0:World}{k:Nat}{a0 a1:Int}{r:ByteArray}(hf:(Rs.gt).inv w0)(E:cT.f k a0 a1=some r):
 Calls aa 65 #[ii a0,ii a1] w0 fun e w'=>e= .returned (.string r)∧St (Rs.gt).fp w0 w' [.gt]:=by
 have H:=St.start hf
 unfold cT.f at E
 refine aP (N:=54) (args:=[ii a0,ii a1]) Tryz.func65 z z (by simp) ?_
 refine rg (va (.string dp) (nl (ae (rg (vm (ii a1) (vr (cg z z) (nl ?_)))))))
 refine aE E z (fun c1 E=>?_) (fun c1 E=>?_)
 ·refine ae ?_
  refine cA (fun t w=>∃(k1:Nat)(x1:Bool)(t1:Fr),k1≤k∧cT.j0 k1 a0 x1=some r∧t=aU t1 [(0,ii a0),(1,ii a1),(4,.string dp),(17,.bool x1),(1000000,undef)]∧St (Rs.gt).fp w0 w [.gt]) ?_ ?_
  ·refine aH (vm (ii a0) (vr (gS z z) (vm (.bool (decide (0≤a0))) ?_)))
   rcases bR (decide (0≤a0))with c2|c2
   ·have E:=iT c2 E
    refine oo c2 z (mv (ii a0) z) (oo c2 z (aZ z z) (vr (pT (.bool (decide (a0<100))) z z c2) (aK ?_)))
    exact⟨k,_,_,aI _,E,aD ⟨z,z,z,z,z,trivial⟩,H⟩
   ·have E:=iF c2 E
    refine ow c2 z (ow c2 z (vr (pF (.bool false) z z c2) (aK ?_)))
    exact⟨k,_,_,aI _,E,aD ⟨z,z,z,z,z,trivial⟩,H⟩
  rintro t w ⟨k1,x1,t1,hk1,E,rfl,H⟩
  unfold cT.j0 at E
  refine aE E z (fun c3 E=>?_) (fun c3 E=>?_)
  ·refine rg (vm (ii a0) ?_)
   obtain⟨x2,E1,E⟩:=ay E
   refine ye (au Ep z ((internal_strconv_small.calls E1).mono ?_))
   rintro _ w ⟨rfl,K⟩
   have H:=H.app K
   refine⟨_,z,va (.string x2) (nl (aj ?_))⟩
   cases E
   exact(aL (aL ⟨.inl z,_,tk0 z ⟨aB z (ad ai),z,H.bA 0 z⟩⟩))
  ·cases E
 ·refine aA (ab (rg (vm (ii a0) (vr (cD z Tryz.underlying2 Tryz.underlying160) (vm (ii a1) (vm (ii a0) (vr (aZ z z) (ye (cm 102 [sn,.int .u64 (u64.wrap a0),ii a1,.bool (decide (a0<0)),.bool false] Es Tryz.func97 z z z z (rg (va sn (va (.string dp) (nl (ae (rg (vm (ii a1) (vr (aZ z z) (vm (.bool (decide (a1<2))) ?_))))))))))))))))))
  rcases bR (decide (a1<2))with c4|c4
  ·have E:=iT c4 E
   refine ow c4 z (ow c4 z (vr (pT (.bool true) z z c4) (vm (.bool true) (ow z z (ow z z (vr (pT (.bool true) z z z) (nl (cl z (aH ?_)))))))))
   cases E
  ·have E:=iF c4 E
   refine oo c4 z (mv (ii a1) z) (oo c4 z (cg z z) (vr (pF (.bool (decide (a1=10))) z z c4) (vm (.bool (decide (a1=10))) (oo c1 z (mv (ii a1) z) (oo c1 z (dy z z) (vr (pF (.bool (decide (36<a1))) z z c1) (nl ?_)))))))
   refine aE E z (fun c5 E=>?_) (fun c5 E=>?_)
   ·refine aH ?_
    cases E
   ·refine aA (ab (rg (ye (D6 (n:=65) EC H (fun b1 w H=>nl (rg (va (ii 65) (nl ?_))))))))
    refine cA (fun t w=>∃(k2:Nat)(x3:Int)(t2:Fr),k2≤k∧cT.j1 (cT.l0 k2) (cT.l1 k2) k2 a0 a1 x3=some r∧t=aU t2 [(0,sn),(1,.int .u64 x3),(2,ii a1),(3,.bool (decide (a0<0))),(4,.bool false),(10,sn),(11,.string dp),(12,pt b1),(13,ii 65),(1000000,undef)]∧St (Rs.gt).fp w0 w [.gt,.own (.int .u8) 229 (.slice (some ⟨b1,0,none⟩) 65 65) (List.replicate 65 (0:Int))]) ?_ ?_
    ·refine rg (vm (.bool (decide (a0<0))) (nl ?_))
     refine aE E z (fun c6 E=>?_) (fun c6 E=>?_)
     ·refine aH (vm (.int .u64 (u64.wrap a0)) (vr (um z) (va (.int .u64 (u64.wrap (-(u64.wrap a0)))) (aK ?_))))
      exact⟨k,_,_,aI _,E,aD ⟨z,z,z,z,z,z,z,z,z,z,trivial⟩,H⟩
     ·refine aA ?_
      exact⟨k,_,_,aI _,E,aD ⟨z,z,z,z,z,z,z,z,z,z,trivial⟩,H⟩
    rintro t w ⟨k2,x3,t2,hk2,E,rfl,H⟩
    unfold cT.j1 at E
    refine cA (fun t w=>∃(k3:Nat)(l1:List Int)(x4:Int)(t3:Fr),k3≤k2∧cT.j2 k3 a0 l1 x4=some r∧t=aU t3 [(0,sn),(3,.bool (decide (a0<0))),(4,.bool false),(10,sn),(11,.string dp),(12,pt b1),(13,ii x4),(1000000,undef)]∧St (Rs.gt).fp w0 w [.gt,.own (.int .u8) 229 (.slice (some ⟨b1,0,none⟩) 65 65) l1]) ?_ ?_
    ·refine rg (vm (ii a1) ?_)
     obtain⟨x5,E2,E⟩:=ay E
     refine ye (au Ej z ((rz.calls E2).mono ?_))
     rintro _ w ⟨rfl,K⟩
     have H:=H.app K
     refine⟨_,z,(nl ?_)⟩
     refine aE E z (fun c7 E=>?_) (fun c7 E=>?_)
     ·refine rg (vm (ii a1) (vr (cD z Tryz.underlying3 Tryz.underlying167) ?_))
      obtain⟨x6,E3,E⟩:=ay E
      refine ye (au Ek z ((kv.calls (H.Gt 0 z) E3).mono ?_))
      rintro _ w ⟨rfl,K⟩
      have H:=H.aV 0 z K
      refine⟨_,z,vr (cD z Tryz.underlying3 Tryz.underlying167) (va (.int .u64 (u64.wrap x6)) (nl (rg (vm (ii a1) (vr (cD z Tryz.underlying3 Tryz.underlying160) (va (.int .u64 (u64.wrap a1)) (nl (rg (vm (ii a1) (vr (cD z Tryz.underlying3 Tryz.underlying167) (vr (bV z z) (va (.int .u64 (u64.wrap ((u64.wrap a1)-1))) (nl (ae (aG ?_)))))))))))))))⟩
      refine bx (fun kk t w=>∃(l2:List Int)(x7 x8:Int)(t4:Fr),kk≤k2∧cT.l0 kk a0 a1 x6 l2 x7 x8=some r∧t=aU t4 [(0,sn),(1,.int .u64 x7),(3,.bool (decide (a0<0))),(4,.bool false),(10,sn),(11,.string dp),(12,pt b1),(13,ii x8),(14,.int .u64 (u64.wrap x6)),(15,.int .u64 (u64.wrap a1)),(16,.int .u64 (u64.wrap ((u64.wrap a1)-1))),(1000000,undef)]∧St (Rs.gt).fp w0 w [.gt,.own (.int .u8) 229 (.slice (some ⟨b1,0,none⟩) 65 65) l2]) k2 ?_ ?_
      ·exact⟨_,_,_,_,aI _,E,aD ⟨z,z,z,z,z,z,z,z,z,z,z,z,trivial⟩,H⟩
      rintro kk t w ⟨l2,x7,x8,t4,hk3,E,rfl,H⟩
      obtain⟨k4,rfl⟩|rfl:=ks kk
      rotate_left
      ·cases E
      rw[cT.l0]at E
      refine ae (rg (vm (.int .u64 x7) (vm (.int .u64 (u64.wrap a1)) (vr (dq z z) (nl ?_)))))
      refine aE E z (fun c8 E=>?_) (fun c8 E=>?_)
      ·refine aA (ab (aG (rg (vm (ii x8) (vr (bV z z) (va (ii (i64.wrap (x8-1))) (nl (rg (vm (ii (i64.wrap (x8-1))) (vm (.int .u64 x7) (vm (.int .u64 (u64.wrap ((u64.wrap a1)-1))) (vr (jo z z) ?_))))))))))))
       obtain⟨⟨g1,g2⟩,E⟩:=ar E
       refine vr (mY Tryz.underlying9 z z g1 g2) ?_
       obtain⟨⟨g3,g4⟩,E⟩:=ar E
       refine vr (dm oQ z z g3 g4) (s_ (nn oT H 1 z (by omega) z z (fun w H=>nl (aH (vm (.int .u64 x7) (vm (.int .u64 (u64.wrap x6)) ?_))))))
       obtain⟨g5,E⟩:=ar E
       refine vr (fT z z g5) (va (.int .u64 (Int.fdiv x7 (2^min (u64.wrap x6).toNat 64))) (aK (aR ?_)))
       exact⟨k4,bL _,_,_,_,_,bK hk3,E,aD ⟨z,z,z,z,z,z,z,z,z,z,z,z,trivial⟩,H⟩
      ·refine bt (aM (aM (bu (ab (rg (vm (ii x8) (vr (bV z z) (va (ii (i64.wrap (x8-1))) (nl (aH (vm (ii (i64.wrap (x8-1))) (vm (.int .u64 x7) ?_))))))))))))
       obtain⟨⟨g6,g7⟩,E⟩:=ar E
       refine vr (mY Tryz.underlying9 z z g6 g7) ?_
       obtain⟨⟨g8,g9⟩,E⟩:=ar E
       refine vr (dm oQ z z g8 g9) (s_ (nn oT H 1 z (by omega) z z (fun w H=>aK ?_)))
       exact⟨k4,_,_,_,by omega,E,aD ⟨z,z,z,z,z,z,z,z,trivial⟩,H⟩
     ·refine rg (vm (ii a1) (vr (cD z Tryz.underlying3 Tryz.underlying160) (va (.int .u64 (u64.wrap a1)) (nl (ae (aG ?_))))))
      refine bx (fun kk t w=>∃(l3:List Int)(x9 x10:Int)(t5:Fr),kk≤k2∧cT.l1 kk a0 a1 l3 x9 x10=some r∧t=aU t5 [(0,sn),(1,.int .u64 x9),(3,.bool (decide (a0<0))),(4,.bool false),(10,sn),(11,.string dp),(12,pt b1),(13,ii x10),(17,.int .u64 (u64.wrap a1)),(1000000,undef)]∧St (Rs.gt).fp w0 w [.gt,.own (.int .u8) 229 (.slice (some ⟨b1,0,none⟩) 65 65) l3]) k2 ?_ ?_
      ·exact⟨_,_,_,_,aI _,E,aD ⟨z,z,z,z,z,z,z,z,z,z,trivial⟩,H⟩
      rintro kk t w ⟨l3,x9,x10,t5,hk4,E,rfl,H⟩
      obtain⟨k5,rfl⟩|rfl:=ks kk
      rotate_left
      ·cases E
      rw[cT.l1]at E
      refine ae (rg (vm (.int .u64 x9) (vm (.int .u64 (u64.wrap a1)) (vr (dq z z) (nl ?_)))))
      refine aE E z (fun c9 E=>?_) (fun c9 E=>?_)
      ·refine aA (ab (aG (rg (vm (ii x10) (vr (bV z z) (va (ii (i64.wrap (x10-1))) (nl (rg (vm (.int .u64 x9) (vm (.int .u64 (u64.wrap a1)) ?_))))))))))
       obtain⟨g10,E⟩:=ar E
       refine vr (ie z z g10) (va (.int .u64 (u64.wrap (Int.tdiv x9 (u64.wrap a1)))) (nl (rg (vm (ii (i64.wrap (x10-1))) (vm (.int .u64 x9) (vm (.int .u64 (u64.wrap (Int.tdiv x9 (u64.wrap a1)))) (vm (.int .u64 (u64.wrap a1)) (vr (cF z z) (vr (bV z z) ?_)))))))))
       obtain⟨⟨g11,g12⟩,E⟩:=ar E
       refine vr (mY Tryz.underlying9 z z g11 g12) ?_
       obtain⟨⟨g13,g14⟩,E⟩:=ar E
       refine vr (dm oQ z z g13 g14) (s_ (nn oT H 1 z (by omega) z z (fun w H=>nl (aH (vm (.int .u64 (u64.wrap (Int.tdiv x9 (u64.wrap a1)))) (va (.int .u64 (u64.wrap (Int.tdiv x9 (u64.wrap a1)))) (aK (aR ?_))))))))
       exact⟨k5,bL _,_,_,_,_,bK hk4,E,aD ⟨z,z,z,z,z,z,z,z,z,z,trivial⟩,H⟩
      ·refine bt (aM (aM (bu (ab (rg (vm (ii x10) (vr (bV z z) (va (ii (i64.wrap (x10-1))) (nl (aH (vm (ii (i64.wrap (x10-1))) (vm (.int .u64 x9) ?_))))))))))))
       obtain⟨⟨g15,g16⟩,E⟩:=ar E
       refine vr (mY Tryz.underlying9 z z g15 g16) ?_
       obtain⟨⟨g17,g18⟩,E⟩:=ar E
       refine vr (dm oQ z z g17 g18) (s_ (nn oT H 1 z (by omega) z z (fun w H=>aK ?_)))
       exact⟨k5,_,_,_,by omega,E,aD ⟨z,z,z,z,z,z,z,z,trivial⟩,H⟩
    rintro t w ⟨k3,l1,x4,t3,hk5,E,rfl,H⟩
    unfold cT.j2 at E
    refine cA (fun t w=>∃(k6:Nat)(l4:List Int)(x11:Int)(t6:Fr),k6≤k3∧cT.j3 k6 l4 x11=some r∧t=aU t6 [(0,sn),(4,.bool false),(10,sn),(11,.string dp),(12,pt b1),(13,ii x11),(1000000,undef)]∧St (Rs.gt).fp w0 w [.gt,.own (.int .u8) 229 (.slice (some ⟨b1,0,none⟩) 65 65) l4]) ?_ ?_
    ·refine rg (vm (.bool (decide (a0<0))) (nl ?_))
     refine aE E z (fun c10 E=>?_) (fun c10 E=>?_)
     ·refine rg (vm (ii x4) (vr (bV z z) (va (ii (i64.wrap (x4-1))) (nl (aH (vm (ii (i64.wrap (x4-1))) ?_))))))
      obtain⟨⟨g19,g20⟩,E⟩:=ar E
      refine vr (dm oQ z z g19 g20) (s_ (nn oT H 1 z (by omega) z z (fun w H=>aK ?_)))
      exact⟨k3,_,_,_,aI _,E,aD ⟨z,z,z,z,z,z,z,trivial⟩,H⟩
     ·refine aA ?_
      exact⟨k3,_,_,_,aI _,E,aD ⟨z,z,z,z,z,z,z,trivial⟩,H⟩
    rintro t w ⟨k6,l4,x11,t6,hk6,E,rfl,H⟩
    unfold cT.j3 at E
    refine ae (rg (vm (.bool false) (nl (bS z (aA (ab (rg (vm (ii x11) ?_))))))))
    obtain⟨⟨g21,g22⟩,E⟩:=ar E
    refine vr (OL oQ z z g21 g22) (vr (Ob Tryz.underlying22 Tryz.underlying5 Tryz.underlying9 (H.Gt 1 z) z) (va (.string (strOfNums (l4.drop x11.toNat))) (nl (aj (⟨.inl z,.tuple #[sn,.string (strOfNums (l4.drop x11.toNat))],tk0 z ⟨ba z (ad (ad ai)) z,vr cz (vr (aX z z) (vr (aX z z) (va sn (va (.string (strOfNums (l4.drop x11.toNat))) (nl (rg (vm (.string (strOfNums (l4.drop x11.toNat))) (va (.string (strOfNums (l4.drop x11.toNat))) (nl (aj ?_))))))))))⟩⟩)))))
    cases E
    exact⟨.inl z,_,tk0 z ⟨aB z (ad ai),z,H.bA 0 z⟩⟩
def nh.f(k:Nat)(a0 a1:Int):Option (ByteArray):=(cT.f k a0 a1).bind fun x1=>some x1
theorem nh.calls{w0:World}{k:Nat}{a0 a1:Int}{r:ByteArray}(hf:(Rs.gt).inv w0)(E:nh.f k a0 a1=some r):
 Calls aa 105 #[ii a0,ii a1] w0 fun e w'=>e= .returned (.string r)∧St (Rs.gt).fp w0 w' [.gt]:=by
 have H:=St.start hf
 unfold nh.f at E
 refine aP (N:=8) (args:=[ii a0,ii a1]) Tryz.func105 z z (by simp) ?_
 refine rg (va (.string dp) (nl (rg (vm (ii a0) (vm (ii a1) ?_)))))
 obtain⟨x1,E2,E⟩:=ay E
 refine ye (au Em z ((cT.calls (H.Gt 0 z) E2).mono ?_))
 rintro _ w ⟨rfl,K⟩
 have H:=H.aV 0 z K
 refine⟨_,z,va (.string x1) (nl (aj ?_))⟩
 cases E
 exact⟨.inl z,_,tk0 z ⟨aB z (ad ai),z,H.bA 0 z⟩⟩
def eM.l0:Nat→List Int→ByteArray→Int→Option (ByteArray)
 |0,_,_,_=>none
 |k+1,a0,l1,x1=>bif decide (x1<(a0.length:Int))then(an (decide ((0:Int)≤x1∧x1<(a0.length:Int))) ((nh.f k (i64.wrap (u8.wrap (Int.tdiv (at_ 0 a0 x1) 16))) 16).bind fun x2=>an (decide (l1.size+x2.size≤140737488355328)) ((nh.f k (i64.wrap (Int.tmod (at_ 0 a0 x1) 16)) 16).bind fun x3=>an (decide ((cat l1 x2).size+x3.size≤140737488355328)) (eM.l0 k a0 (cat (cat l1 x2) x3) (i64.wrap (x1+1))))))else(some l1)
def eM.f(k:Nat)(a0:List Int):Option (ByteArray):=bif decide ((a0.length:Int)=0)then(some mc)else(eM.l0 k a0 ByteArray.empty 0)
theorem eM.calls{w0:World}{k:Nat}{a0:List Int}{v0_:Value}{r:ByteArray}(hf:(Rs.gt).inv w0)(h0:Rd (.of (.int .u8)) w0 (Ol (Rs.gt).fp w0) v0_ a0)(E:eM.f k a0=some r):
 Calls aa 72 #[v0_] w0 fun e w'=>e= .returned (.string r)∧St (Rs.gt).fp w0 w' [.gt]:=by
 have H:=St.start hf
 unfold eM.f at E
 refine aP (N:=27) (args:=[v0_]) Tryz.func72 z z (by simp) ?_
 refine rg (va (.string dp) (nl (ae (rg (vm v0_ (vr (aY su (H.rd h0) z) (vr (cg z z) (nl ?_))))))))
 refine aE E z (fun c2 E=>?_) (fun c2 E=>?_)
 ·refine rg (va (.string mc) (nl (aj ?_)))
  cases E
  exact(aL ⟨.inl z,_,tk0 z ⟨aB z (ad ai),z,H.bA 0 z⟩⟩)
 ·refine aA (ab (rg (ye (D8 EB H (fun b3 w H=>nl (ae (rg (vm v0_ (vr (aY su (H.rd h0) z) (vm (ii 0) (nl (aG ?_))))))))))))
  refine bx (fun kk t w=>∃(l1:ByteArray)(x1:Int)(v1:Value)(t1:Fr),kk≤k∧eM.l0 kk a0 l1 x1=some r∧t=aU t1 [(2,.string dp),(3,pt b3),(9,v0_),(10,ii (a0.length:Int)),(11,ii x1),(1000000,undef)]∧St (Rs.gt).fp w0 w [.gt,.df b3 v1 (sb l1)]) k ?_ ?_
  ·exact⟨_,_,_,_,aI _,E,aD ⟨z,z,z,z,z,z,trivial⟩,H⟩
  rintro kk t w ⟨l1,x1,v1,t1,hk1,E,rfl,H⟩
  obtain⟨k31,rfl⟩|rfl:=ks kk
  rotate_left
  ·cases E
  rw[eM.l0]at E
  refine rg (vr (aZ z z) (nl (ae ?_)))
  refine aE E z (fun c1 E=>?_) (fun c1 E=>?_)
  ·refine aA (ab (ae (aG (rg ?_))))
   obtain⟨⟨g1,g2⟩,E⟩:=ar E
   refine vr (bo mb (H.rd h0) z z g1 g2) (vr (bq oS (H.rd h0) g1 g2 z) (va (iu (at_ 0 a0 x1)) (nl (rg (vm (iu (at_ 0 a0 x1)) (vr (ie z z (by decide)) (vr (cD z Tryz.underlying5 Tryz.underlying2) ?_)))))))
   obtain⟨x2,E1,E⟩:=ay E
   refine ye (au yf z ((nh.calls (H.Gt 0 z) E1).mono ?_))
   rintro _ w ⟨rfl,K⟩
   have H:=H.aV 0 z K
   refine⟨_,z,?_⟩
   obtain⟨g3,E⟩:=ar E
   refine ye (ma H 1 z yh z z g3 (fun v2 w H=>nl (aH (vm (iu (at_ 0 a0 x1)) (vr (fg z z (by decide)) (vr (cD z Tryz.underlying5 Tryz.underlying2) ?_))))))
   obtain⟨x3,E2,E⟩:=ay E
   refine ye (au yf z ((nh.calls (H.Gt 0 z) E2).mono ?_))
   rintro _ w ⟨rfl,K⟩
   have H:=H.aV 0 z K
   refine⟨_,z,?_⟩
   obtain⟨g4,E⟩:=ar E
   refine ye (ma H 1 z yh z z g4 (fun v3 w H=>aK (aR (ab (aH (vr (aO z z) (vm (ii (i64.wrap (x1+1))) (aK ?_))))))))
   exact⟨k31,bL _,_,_,_,_,bK hk1,E,aD ⟨z,z,z,z,z,z,trivial⟩,H⟩
  ·refine bt (aM (aM (bu (ab (rg (ye (D9 H 1 z El z (fun w H=>va (.string l1) (nl (aj ?_))))))))))
   cases E
   exact⟨.inl z,_,tk0 z ⟨aB z (ad ai),z,H.bA 0 z⟩⟩
def bM.j0(k:Nat)(a1:ByteArray)(l1:List ByteArray):Option (ByteArray):=(strings_Join.f l1 a1).bind fun x1=>some x1
def bM.l0:Nat→List Int→ByteArray→List (ByteArray)→Int→Option (ByteArray)
 |0,_,_,_,_=>none
 |k+1,a0,a1,l1,x1=>bif decide (x1<(a0.length:Int))then(an (decide ((0:Int)≤x1∧x1<(a0.length:Int))) ((strconv_Itoa.f (at_ 0 a0 x1)).bind fun x2=>an (decide ((l1.length+([x2]).length)*16≤140737488355328)) (bM.l0 k a0 a1 (l1++([x2])) (i64.wrap (x1+1)))))else(bM.j0 k a1 l1)
def bM.f(k:Nat)(a0:List Int)(a1:ByteArray):Option (ByteArray):=bif decide ((a0.length:Int)=0)then(some mc)else(bM.l0 k a0 a1 ([]:List ByteArray) 0)
theorem bM.calls{w0:World}{k:Nat}{a0:List Int}{a1:ByteArray}{v0_:Value}{r:ByteArray}(hf:(Rs.lv).inv w0)(h0:Rd (.of (.int .i64)) w0 (Ol (Rs.lv).fp w0) v0_ a0)(E:bM.f k a0 a1=some r):
 Calls aa 75 #[v0_,.string a1] w0 fun e w'=>e= .returned (.string r)∧St (Rs.lv).fp w0 w' [.lv]:=by
 have H:=St.start hf
 unfold bM.f at E
 refine aP (N:=26) (args:=[v0_,.string a1]) Tryz.func75 z z (by simp) ?_
 refine rg (va (.string dp) (nl (ae (rg (vm v0_ (vr (aY yk (H.rd h0) z) (vr (cg z z) (nl ?_))))))))
 refine aE E z (fun c2 E=>?_) (fun c2 E=>?_)
 ·refine rg (va (.string mc) (nl (aj ?_)))
  cases E
  exact(aL ⟨.inl z,_,tk0 z ⟨aB z (ad ai),z,H.bA 0 z⟩⟩)
 ·refine aA (ab (rg (va sn (nl ?_))))
  refine cA (fun t w=>∃(k1:Nat)(l1:List ByteArray)(v1:Value)(t1:Fr),k1≤k∧bM.j0 k1 a1 l1=some r∧t=aU t1 [(1,.string a1),(4,.string dp),(5,v1),(1000000,undef)]∧St (Rs.lv).fp w0 w [.lv,.own .str 9 v1 l1]) ?_ ?_
  ·refine rg (vm v0_ (vr (aY yk (H.rd h0) z) (vm (ii 0) (nl (aG ?_)))))
   have H:=H.bB .str 9
   refine bx (fun kk t w=>∃(l2:List ByteArray)(x1:Int)(v2:Value)(t2:Fr),kk≤k∧bM.l0 kk a0 a1 l2 x1=some r∧t=aU t2 [(1,.string a1),(4,.string dp),(5,v2),(11,v0_),(12,ii (a0.length:Int)),(13,ii x1),(1000000,undef)]∧St (Rs.lv).fp w0 w [.lv,.own .str 9 v2 l2]) k ?_ ?_
   ·exact⟨_,_,_,_,aI _,E,aD ⟨z,z,z,z,z,z,z,trivial⟩,H⟩
   rintro kk t w ⟨l2,x1,v2,t2,hk1,E,rfl,H⟩
   obtain⟨k2,rfl⟩|rfl:=ks kk
   rotate_left
   ·cases E
   rw[bM.l0]at E
   refine rg (vr (aZ z z) (nl (ae ?_)))
   refine aE E z (fun c1 E=>?_) (fun c1 E=>?_)
   ·refine aA (ab (ae (aG (rg ?_))))
    obtain⟨⟨g1,g2⟩,E⟩:=ar E
    refine vr (bo uS (H.rd h0) z z g1 g2) (vr (bq sj (H.rd h0) g1 g2 z) (va (ii (at_ 0 a0 x1)) (nl (aH (vm v2 (vm (ii (at_ 0 a0 x1)) ?_))))))
    obtain⟨x2,E1,E⟩:=ay E
    refine ye (au qx z ((strconv_Itoa.calls (H.Gt 0 z) E1).mono ?_))
    rintro _ w ⟨rfl,K⟩
    have H:=H.aV 0 z K
    refine⟨_,z,ye (cL (e:=.str) (l:=[x2]) sk H z (by decide) ⟨z,z,trivial⟩ (by decide) (fun v3 w H=>?_))⟩
    obtain⟨g3,E⟩:=ar E
    refine ye (dZ sk H 1 z (ao (H.Gt 2 z)) z z (by omega) (by unfold maxLen;omega) (fun v4 w H=>va v4 (aK (aR (ab (aH (vr (aO z z) (vm (ii (i64.wrap (x1+1))) (aK ?_)))))))))
    exact⟨k2,bL _,_,_,_,_,bK hk1,E,aD ⟨z,z,z,z,z,z,z,trivial⟩,H.ag [0,1] z z⟩
   ·refine bt (aM (aM (bu ?_)))
    exact⟨k2,_,_,_,by omega,E,aD ⟨z,z,z,z,trivial⟩,H⟩
  rintro t w ⟨k1,l1,v1,t1,hk2,E,rfl,H⟩
  unfold bM.j0 at E
  refine rg (vm v1 (vm (.string a1) ?_))
  obtain⟨x3,E2,E⟩:=ay E
  refine ye (au yg z ((strings_Join.calls (H.own 1 z (ao (H.Gt 1 z))) E2).mono ?_))
  rintro _ w ⟨rfl,K⟩
  have H:=H.app K
  refine⟨_,z,va (.string x3) (nl (aj ?_))⟩
  cases E
  exact⟨.inl z,_,tk0 z ⟨aB z (ad ai),z,H.bA 0 z⟩⟩
def kV.f(a0:List ByteArray):Option (ByteArray):=(strings_Join.f a0 gX).bind fun x1=>some x1
theorem kV.calls{w0:World}{a0:List ByteArray}{v0_:Value}{r:ByteArray}(h0:Rd (.of .str) w0 (Ol no w0) v0_ a0)(E:kV.f a0=some r):
 Calls aa 74 #[v0_] w0 fun e w'=>e= .returned (.string r)∧St no w0 w' []:=by
 have H:=St.nil no w0
 unfold kV.f at E
 refine aP (N:=5) (args:=[v0_]) Tryz.func74 z z (by simp) ?_
 refine rg (va (.string dp) (nl (rg (vm v0_ ?_))))
 obtain⟨x1,E2,E⟩:=ay E
 refine ye (au yg z ((strings_Join.calls (H.arg (H.rd h0)) E2).mono ?_))
 rintro _ w ⟨rfl,K⟩
 have H:=H.app K
 refine⟨_,z,va (.string x1) (nl (aj ?_))⟩
 cases E
 exact⟨.inl z,_,tk0 z ⟨aB z (ad ai),z,H.bs⟩⟩
def jT.f(a0:Int):Option (ByteArray):=(strconv_Itoa.f (i64.wrap a0)).bind fun x1=>(kV.f ([yj,x1])).bind fun x4=>some x4
theorem jT.calls{w0:World}{a0:Int}{r:ByteArray}(hf:(Rs.lv).inv w0)(E:jT.f a0=some r):
 Calls aa 68 #[.int .u16 a0] w0 fun e w'=>e= .returned (.string r)∧St (Rs.lv).fp w0 w' [.lv]:=by
 have H:=St.start hf
 unfold jT.f at E
 refine aP (N:=8) (args:=[.int .u16 a0]) Tryz.func68 z z (by simp) ?_
 refine rg (va (.string dp) (nl (rg (vm (.int .u16 a0) (vr (cD z Tryz.underlying125 Tryz.underlying3) ?_)))))
 obtain⟨x1,E2,E⟩:=ay E
 refine ye (au qx z ((strconv_Itoa.calls (H.Gt 0 z) E2).mono ?_))
 rintro _ w ⟨rfl,K⟩
 have H:=H.aV 0 z K
 refine⟨_,z,ye (cL (e:=.str) (l:=[yj,x1]) sk H z (by decide) ⟨z,z,z,z,trivial⟩ (by decide) (fun v3 w H=>?_))⟩
 obtain⟨x4,E5,E⟩:=ay E
 refine ye (au Eo z ((kV.calls (H.own 1 z (ao (H.Gt 1 z))) E5).mono ?_))
 rintro _ w ⟨rfl,K⟩
 have H:=H.app K
 refine⟨_,z,va (.string x4) (nl (aj ?_))⟩
 cases E
 exact⟨.inl z,_,tk0 z ⟨aB z (ad ai),z,H.bA 0 z⟩⟩
def fR.l0:Nat→List ByteArray→List (Int)→Int→Option (List Int×Bool)
 |0,_,_,_=>none
 |k+1,a0,l1,x1=>bif decide (x1<(a0.length:Int))then(an (decide ((0:Int)≤x1∧x1<(a0.length:Int))) (bif decide (at_ ByteArray.empty a0 x1=dp)then(some (([]:List Int),false))else(bif decide (4<((at_ ByteArray.empty a0 x1).size:Int))then(some (([]:List Int),false))else((ni.f (at_ ByteArray.empty a0 x1) so).bind fun x2=>bif !decide (x2=dp)then(some (([]:List Int),false))else((strconv_Atoi.f (at_ ByteArray.empty a0 x1)).bind fun x3=>an (decide ((l1.length+([x3]).length)*8≤140737488355328)) (fR.l0 k a0 (l1++([x3])) (i64.wrap (x1+1))))))))else(some (l1,true))
def fR.f(k:Nat)(a0:List ByteArray):Option (List Int×Bool):=fR.l0 k a0 ([]:List Int) 0
theorem fR.calls{w0:World}{k:Nat}{a0:List ByteArray}{v0_:Value}{r:List Int×Bool}(hf:(Rs.lv).inv w0)(h0:Rd (.of .str) w0 (Ol (Rs.lv).fp w0) v0_ a0)(E:fR.f k a0=some r):
 Calls aa 66 #[v0_] w0 fun e w'=>∃(u0:Value),e= .returned (.tuple #[u0,.bool r.2])∧St (Rs.lv).fp w0 w' [.lv,.own (.int .i64) 3 u0 r.1]:=by
 have H:=St.start hf
 unfold fR.f at E
 refine aP (N:=38) (args:=[v0_]) Tryz.func66 z z (by simp) ?_
 refine rg (va sn (va (.bool false) (nl (rg (va sn (nl (ae (rg (vm v0_ (vr (aY EA (H.rd h0) z) (vm (ii 0) (nl (aG ?_)))))))))))))
 have H:=H.bB (.int .i64) 3
 refine bx (fun kk t w=>∃(l1:List Int)(x1:Int)(v1:Value)(t1:Fr),kk≤k∧fR.l0 kk a0 l1 x1=some r∧t=aU t1 [(2,sn),(3,.bool false),(4,v1),(9,v0_),(10,ii (a0.length:Int)),(11,ii x1),(1000000,undef)]∧St (Rs.lv).fp w0 w [.lv,.own (.int .i64) 3 v1 l1]) k ?_ ?_
 ·exact⟨_,_,_,_,aI _,E,aD ⟨z,z,z,z,z,z,z,trivial⟩,H⟩
 rintro kk t w ⟨l1,x1,v1,t1,hk1,E,rfl,H⟩
 obtain⟨k1,rfl⟩|rfl:=ks kk
 rotate_left
 ·cases E
 rw[fR.l0]at E
 refine rg (vr (aZ z z) (nl (ae ?_)))
 refine aE E z (fun c1 E=>?_) (fun c1 E=>?_)
 ·refine aA (ab (ae (aG (rg ?_))))
  obtain⟨⟨g1,g2⟩,E⟩:=ar E
  refine vr (bo sk (H.rd h0) z z g1 g2) (vr (lO (e:=.str) (j:=0) Ez (H.rd h0) (ga ByteArray.empty g1 g2) z z) (va (.string (at_ ByteArray.empty a0 x1)) (nl (ae (rg (vm (.string (at_ ByteArray.empty a0 x1)) (vr (ov z z) (vm (.bool (decide (at_ ByteArray.empty a0 x1=dp))) ?_))))))))
  rcases bR (decide (at_ ByteArray.empty a0 x1=dp))with c2|c2
  ·have E:=iT c2 E
   refine ow c2 z (ow c2 z (ow c2 z (vr (pT (.bool true) z z c2) (vm (.bool true) (ow z z (ow z z (ow z z (vr (pT (.bool true) z z z) (nl (cl z (rg (va sn (va (.bool false) (nl (aj ?_)))))))))))))))
   have H:=H.bB (.int .i64) 3
   cases E
   exact(aL (bG (aL (aL (bG (aL ⟨.inl z,_,tk0 z ⟨aB z (ad (ad ai)),_,z,H.bN 0 2 z z z⟩⟩))))))
  ·have E:=iF c2 E
   refine oo c2 z (mv (.string (at_ ByteArray.empty a0 x1)) z) (oo c2 z (uh uR z) (oo c2 z (dy z z) (vr (pF (.bool (decide (4<((at_ ByteArray.empty a0 x1).size:Int)))) z z c2) (vm (.bool (decide (4<((at_ ByteArray.empty a0 x1).size:Int)))) ?_))))
   rcases bR (decide (4<((at_ ByteArray.empty a0 x1).size:Int)))with c3|c3
   ·have E:=iT c3 E
    refine ow c3 z (ow c3 z (ow c3 z (vr (pT (.bool true) z z c3) (nl (cl z (rg (va sn (va (.bool false) (nl (aj ?_))))))))))
    have H:=H.bB (.int .i64) 3
    cases E
    exact(aL (bG (aL (aL (bG (aL ⟨.inl z,_,tk0 z ⟨aB z (ad (ad ai)),_,z,H.bN 0 2 z z z⟩⟩))))))
   ·have E:=iF c3 E
    refine oo c3 z (mv (.string (at_ ByteArray.empty a0 x1)) z) ?_
    obtain⟨x2,E1,E⟩:=ay E
    refine dP z c3 z (au Et z ((ni.calls E1).mono ?_))
    rintro _ w ⟨rfl,K⟩
    have H:=H.app K
    refine⟨_,z,oo c3 z (OQ z z) (vr (pF (.bool (!decide (x2=dp))) z z c3) (nl ?_))⟩
    refine aE E z (fun c4 E=>?_) (fun c4 E=>?_)
    ·refine rg (va sn (va (.bool false) (nl (aj ?_))))
     have H:=H.bB (.int .i64) 3
     cases E
     exact(aL (bG (aL (aL (bG (aL ⟨.inl z,_,tk0 z ⟨aB z (ad (ad ai)),_,z,H.bN 0 2 z z z⟩⟩))))))
    ·refine aA (ab (rg (vm (.string (at_ ByteArray.empty a0 x1)) ?_)))
     obtain⟨x3,E2,E⟩:=ay E
     refine ye (au Eu z ((strconv_Atoi.calls E2).mono ?_))
     rintro _ w ⟨rfl,K⟩
     have H:=H.app K
     refine⟨_,z,vr cz (vr (aX z z) (vr (aX z z) (va (ii x3) (va (.nilIface) (nl (aH (vm v1 (vm (ii x3) (ye (cL (e:=(.int .i64)) (l:=[x3]) uS H z (by decide) ⟨z,z,trivial⟩ (by decide) (fun v2 w H=>?_)))))))))))⟩
     obtain⟨g3,E⟩:=ar E
     refine ye (dZ uS H 1 z (ao (H.Gt 2 z)) z z (by omega) (by unfold maxLen;omega) (fun v3 w H=>va v3 (aK (aR (ab (aH (vr (aO z z) (vm (ii (i64.wrap (x1+1))) (aK ?_)))))))))
     exact⟨k1,bL _,_,_,_,_,bK hk1,E,aD ⟨z,z,z,z,z,z,z,trivial⟩,H.ag [0,1] z z⟩
 ·refine bt (aM (aM (bu (ab (rg (vm v1 (va v1 (va (.bool true) (nl (aj ?_))))))))))
  cases E
  exact⟨.inl z,_,tk0 z ⟨aB z (ad (ad ai)),_,z,H.bN 0 1 z z z⟩⟩
def jU.j0(a0:Int)(x3:Bool):Option (Int×Bool):=bif x3 then(some (u8.wrap (i32.wrap (a0-48)),true))else(bif decide (97≤a0)then(bif decide (a0≤102)then(some (u8.wrap (u8.wrap (i32.wrap (a0-97))+10),true))else(some (0,false)))else(some (0,false)))
def jU.f(a0:Int):Option (Int×Bool):=bif decide (48≤a0)then(jU.j0 a0 (decide (a0≤57)))else(jU.j0 a0 false)
theorem jU.calls{w0:World}{a0:Int}{r:Int×Bool}(E:jU.f a0=some r):
 Calls aa 100 #[.int .i32 a0] w0 fun e w'=>e= .returned (.tuple #[iu r.1,.bool r.2])∧St no w0 w' []:=by
 have H:=St.nil no w0
 unfold jU.f at E
 refine aP (N:=25) (args:=[.int .i32 a0]) Tryz.func100 z z (by simp) ?_
 obtain⟨k,_⟩:∃k:Nat,k=0:=⟨0,rfl⟩
 refine rg (va (iu 0) (va (.bool false) (nl (ae (aG ?_)))))
 refine cA (fun t w=>∃(k5:Nat)(x3:Bool)(t4:Fr),k5≤k∧jU.j0 a0 x3=some r∧t=aU t4 [(0,.int .i32 a0),(2,iu 0),(3,.bool false),(4,.bool x3),(1000000,undef)]∧St no w0 w []) ?_ ?_
 ·refine aH (vm (.int .i32 a0) (vr (dq z z) (vm (.bool (decide (48≤a0))) ?_)))
  rcases bR (decide (48≤a0))with c7|c7
  ·have E:=iT c7 E
   refine oo c7 z (mv (.int .i32 a0) z) (oo c7 z (gS z z) (vr (pT (.bool (decide (a0≤57))) z z c7) (va (.bool (decide (a0≤57))) (aK ?_))))
   exact⟨k,_,_,aI _,E,aD ⟨z,z,z,z,z,trivial⟩,H⟩
  ·have E:=iF c7 E
   refine ow c7 z (ow c7 z (vr (pF (.bool false) z z c7) (va (.bool false) (aK ?_))))
   exact⟨k,_,_,aI _,E,aD ⟨z,z,z,z,z,trivial⟩,H⟩
 rintro t w ⟨k5,x3,t4,hk6,E,rfl,H⟩
 unfold jU.j0 at E
 refine aE E z (fun c8 E=>?_) (fun c8 E=>?_)
 ·refine rg (vm (.int .i32 a0) (vr (bV z z) (vr (cD z Tryz.underlying21 Tryz.underlying5) (va (iu (u8.wrap (i32.wrap (a0-48)))) (va (.bool true) (nl (aj ?_)))))))
  cases E
  exact(bG (aL ⟨.inl z,_,tk0 z ⟨aB z (ad (ad ai)),z,H.bs⟩⟩))
 ·refine rg (vm (.int .i32 a0) (vr (dq z z) (vm (.bool (decide (97≤a0))) ?_)))
  rcases bR (decide (97≤a0))with c9|c9
  ·have E:=iT c9 E
   refine oo c9 z (mv (.int .i32 a0) z) (oo c9 z (gS z z) (vr (pT (.bool (decide (a0≤102))) z z c9) (va (.bool (decide (a0≤102))) (nl ?_))))
   refine aE E z (fun c1 E=>?_) (fun c1 E=>?_)
   ·refine rg (vm (.int .i32 a0) (vr (bV z z) (vr (cD z Tryz.underlying21 Tryz.underlying5) (vr (aO z z) (va (iu (u8.wrap (u8.wrap (i32.wrap (a0-97))+10))) (va (.bool true) (nl (aj ?_))))))))
    cases E
    exact(bG (aL ⟨.inl z,_,tk0 z ⟨aB z (ad (ad ai)),z,H.bs⟩⟩))
   ·refine aA (aR (ab (rg (va (iu 0) (va (.bool false) (nl (aj ?_)))))))
    cases E
    exact⟨.inl z,_,tk0 z ⟨aB z (ad (ad ai)),z,H.bs⟩⟩
  ·have E:=iF c9 E
   refine ow c9 z (ow c9 z (vr (pF (.bool false) z z c9) (va (.bool false) (nl (bS z (aA (aR (ab (rg (va (iu 0) (va (.bool false) (nl (aj ?_)))))))))))))
   cases E
   exact⟨.inl z,_,tk0 z ⟨aB z (ad (ad ai)),z,H.bs⟩⟩
def fx.l0:Nat→ByteArray→List (Int)→Nat→Option (List Int×Bool)
 |0,_,_,_=>none
 |k+1,a0,l1,l2=>bif decide (l2<a0.size)then((jU.f (ml a0 l2)).bind fun x1=>bif !x1.2 then(some (([]:List Int),false))else(an (decide ((0:Int)≤i64.wrap (Int.tdiv (l2:Int) 2)∧i64.wrap (Int.tdiv (l2:Int) 2)<(l1.length:Int))) (an (decide ((0:Int)≤i64.wrap (Int.tdiv (l2:Int) 2)∧i64.wrap (Int.tdiv (l2:Int) 2)<(l1.length:Int))) (fx.l0 k a0 (l1.set (i64.wrap (Int.tdiv (l2:Int) 2)).toNat (bits .or .u8 (u8.wrap (at_ 0 l1 (i64.wrap (Int.tdiv (l2:Int) 2))*2^min (4:Int).toNat 8)) x1.1)) (l2+o0 a0 l2)))))else(some (l1,true))
def fx.f(k:Nat)(a0:ByteArray):Option (List Int×Bool):=bif decide (a0=mc)then(some (([]:List Int),true))else(bif decide (a0=dp)then(some (([]:List Int),false))else(bif decide (Int.tmod (a0.size:Int) 2=1)then(some (([]:List Int),false))else(an (decide ((0:Int)≤i64.wrap (Int.tdiv (a0.size:Int) 2)∧i64.wrap (Int.tdiv (a0.size:Int) 2)≤i64.wrap (Int.tdiv (a0.size:Int) 2)∧i64.wrap (Int.tdiv (a0.size:Int) 2)≤140737488355328)) (fx.l0 k a0 (List.replicate (i64.wrap (Int.tdiv (a0.size:Int) 2)).toNat (0:Int)) 0))))
theorem fx.calls{w0:World}{k:Nat}{a0:ByteArray}{r:List Int×Bool}(E:fx.f k a0=some r):
 Calls aa 70 #[.string a0] w0 fun e w'=>∃(u0:Value),e= .returned (.tuple #[u0,.bool r.2])∧St no w0 w' [.own (.int .u8) 5 u0 r.1]:=by
 have H:=St.nil no w0
 unfold fx.f at E
 refine aP (N:=49) (args:=[.string a0]) Tryz.func70 z z (by simp) ?_
 refine rg (va sn (va (.bool false) (nl (ae (rg (vm (.string a0) (vr (ov z z) (nl ?_))))))))
 refine aE E z (fun c2 E=>?_) (fun c2 E=>?_)
 ·refine rg (va sn (va (.bool true) (nl (aj ?_))))
  have H:=H.bB (.int .u8) 5
  cases E
  exact(aL ⟨.inl z,_,tk0 z ⟨aB z (ad (ad ai)),_,z,H.bA 0 z⟩⟩)
 ·refine aA (ab (ae (rg (vm (.string a0) (vr (ov z z) (vm (.bool (decide (a0=dp))) ?_))))))
  rcases bR (decide (a0=dp))with c5|c5
  ·have E:=iT c5 E
   refine ow c5 z (ow c5 z (ow c5 z (ow c5 z (vr (pT (.bool true) z z c5) (nl (cl z (rg (va sn (va (.bool false) (nl (aj ?_)))))))))))
   have H:=H.bB (.int .u8) 5
   cases E
   exact(aL ⟨.inl z,_,tk0 z ⟨aB z (ad (ad ai)),_,z,H.bA 0 z⟩⟩)
  ·have E:=iF c5 E
   refine oo c5 z (mv (.string a0) z) (oo c5 z (uh uR z) (oo c5 z (fg z z (by decide)) (oo c5 z (cg z z) (vr (pF (.bool (decide (Int.tmod (a0.size:Int) 2=1))) z z c5) (nl ?_)))))
   refine aE E z (fun c6 E=>?_) (fun c6 E=>?_)
   ·refine rg (va sn (va (.bool false) (nl (aj ?_))))
    have H:=H.bB (.int .u8) 5
    cases E
    exact(aL ⟨.inl z,_,tk0 z ⟨aB z (ad (ad ai)),_,z,H.bA 0 z⟩⟩)
   ·refine aA (ab (rg (vm (.string a0) (vr (uh uR z) (vr (ie z z (by decide)) ?_)))))
    obtain⟨⟨g8,g9,g1⟩,E⟩:=ar E
    refine ye (ee (e:=(.int .u8)) (z0:=0) mb z H z z g8 g9 (by omega) (by omega) (fun v7 w H=>va v7 (nl (ae (rg (vm (.string a0) (ye (Q9 Tryz.underlying9 H z (fun b1 w H=>nl (aG ?_))))))))))
    refine bx (fun kk t w=>∃(l1:List Int)(l2:Nat)(t1:Fr),kk≤k∧fx.l0 kk a0 l1 l2=some r∧t=aU t1 [(2,sn),(3,.bool false),(4,v7),(24,pt b1),(1000000,undef)]∧St no w0 w [.own (.int .u8) 5 v7 l1,.pM b1 a0 l2]) k ?_ ?_
    ·exact⟨_,_,_,aI _,E,aD ⟨z,z,z,z,z,trivial⟩,H⟩
    rintro kk t w ⟨l1,l2,t1,hk1,E,rfl,H⟩
    obtain⟨k1,rfl⟩|rfl:=ks kk
    rotate_left
    ·cases E
    rw[fx.l0]at E
    refine rg ?_
    rcases bR (decide (l2<a0.size))with c1|c1
    ·have E:=iT c1 E
     refine ye (Q8 H 1 z z c1 (fun w H=>vr (aX z z) (nl (ae (cl z (aA (ab (aG (rg (vr (aX z z) (vr (aX z z) (va (ii (l2:Int)) (va (.int .i32 (ml a0 l2)) (nl (rg (vm (.int .i32 (ml a0 l2)) ?_))))))))))))))))
     obtain⟨x1,E1,E⟩:=ay E
     refine ye (au Ei z ((jU.calls E1).mono ?_))
     rintro _ w ⟨rfl,K⟩
     have H:=H.app K
     refine⟨_,z,vr cz (vr (aX z z) (vr (aX z z) (va (iu x1.1) (va (.bool x1.2) (nl (ae (rg (vm (.bool x1.2) (vr (cp z) (nl ?_))))))))))⟩
     refine aE E z (fun c3 E=>?_) (fun c3 E=>?_)
     ·refine rg (va sn (va (.bool false) (nl (aj ?_))))
      have H:=H.bB (.int .u8) 5
      cases E
      exact(aL (bG (aL (bG (aL ⟨.inl z,_,tk0 z ⟨aB z (ad (ad ai)),_,z,H.bA 2 z⟩⟩)))))
     ·refine aA (ab (aH (vm v7 (vm (ii (l2:Int)) (vr (ie z z (by decide)) (vm v7 (vm (ii (l2:Int)) (vr (ie z z (by decide)) ?_))))))))
      obtain⟨⟨g2,g3⟩,E⟩:=ar E
      refine vr (bo mb (ao (H.Gt 0 z)) z z g2 g3) (vr (bq oS (ao (H.Gt 0 z)) g2 g3 z) (vr (ox z z (by decide)) (vm (iu x1.1) (vr (xj z z) ?_))))
      obtain⟨⟨g4,g5⟩,E⟩:=ar E
      refine vr (bo mb (ao (H.Gt 0 z)) z z g4 g5) (s_ (dc oT H 0 z g4 g5 z z (fun w H=>aK (aR ?_))))
      exact⟨k1,bL _,_,_,_,bK hk1,E,aD ⟨z,z,z,z,z,trivial⟩,H⟩
    ·have E:=iF c1 E
     refine vr (Q7 (H.Gt 1 z) z c1) (vr (aX z z) (nl (ae (bS z (bt (aM (aM (bu (ab (rg (vm v7 (va v7 (va (.bool true) (nl (aj ?_)))))))))))))))
     cases E
     exact⟨.inl z,_,tk0 z ⟨aB z (ad (ad ai)),_,z,H.bA 0 z⟩⟩
def nV.f(a0:Int×Int×Int):Option (ByteArray):=(strconv_Itoa.f a0.1).bind fun x2=>an (decide ((lf.size+x2.size:Nat)≤140737488355328)) (an (decide (((cat lf x2).size+gX.size:Nat)≤140737488355328)) ((strconv_Itoa.f a0.2.1).bind fun x6=>an (decide (((cat (cat lf x2) gX).size+x6.size:Nat)≤140737488355328)) (an (decide (((cat (cat (cat lf x2) gX) x6).size+gX.size:Nat)≤140737488355328)) ((strconv_Itoa.f a0.2.2).bind fun x1=>an (decide (((cat (cat (cat (cat lf x2) gX) x6) gX).size+x1.size:Nat)≤140737488355328)) (an (decide (((cat (cat (cat (cat (cat lf x2) gX) x6) gX) x1).size+sr.size:Nat)≤140737488355328)) (some (cat (cat (cat (cat (cat (cat lf x2) gX) x6) gX) x1) sr)))))))
theorem nV.calls{w0:World}{a0:Int×Int×Int}{r:ByteArray}(hf:(Rs.lv).inv w0)(E:nV.f a0=some r):
 Calls aa 14 #[.agg #[ii a0.1,ii a0.2.1,ii a0.2.2]] w0 fun e w'=>e= .returned (.string r)∧St (Rs.lv).fp w0 w' [.lv]:=by
 have H:=St.start hf
 unfold nV.f at E
 refine aP (N:=18) (args:=[.agg #[ii a0.1,ii a0.2.1,ii a0.2.2]]) Tryz.func14 z z (by simp) ?_
 refine rg (ye (bc (cs:=#[ii a0.1,ii a0.2.1,ii a0.2.2]) H z (fun b1 w H=>va (.string dp) (nl (ae (cd (ds:=[]) yi H z z ?_))))))
 have H:=H.drew
 refine wg 0 z H (az Ew z) (wz 1 z H (fun w H=>av sj z (ak (H.Gt 1 z) z)) (wg 5 z H (az Ex z) (wz 6 z H (fun w H=>av sj z (ak (H.Gt 1 z) z)) (wg 10 z H (az Ey z) (wz 11 z H (fun w H=>av sj z (ak (H.Gt 1 z) z)) ?_)))))
 obtain⟨x2,E3,E⟩:=ay E
 refine wo 2 z (au qx z ((strconv_Itoa.calls (H.Gt 0 z) E3).mono ?_))
 rintro _ w ⟨rfl,K⟩
 have H:=H.aV 0 z K
 refine⟨_,z,⟨fun _=>H.ag [0,1] z z,?_⟩⟩
 obtain⟨g4,E⟩:=ar E
 refine wg 3 z (H.ag [0,1] z z) (cJ z z g4) ?_
 obtain⟨g5,E⟩:=ar E
 refine wg 4 z (H.ag [0,1] z z) (cJ z z g5) ?_
 obtain⟨x6,E7,E⟩:=ay E
 refine wo 7 z (au qx z ((strconv_Itoa.calls (H.Gt 0 z) E7).mono ?_))
 rintro _ w ⟨rfl,K⟩
 have H:=H.aV 0 z K
 refine⟨_,z,⟨fun _=>H.ag [0,1] z z,?_⟩⟩
 obtain⟨g8,E⟩:=ar E
 refine wg 8 z (H.ag [0,1] z z) (cJ z z g8) ?_
 obtain⟨g9,E⟩:=ar E
 refine wg 9 z (H.ag [0,1] z z) (cJ z z g9) ?_
 obtain⟨x1,E1,E⟩:=ay E
 refine wo 12 z (au qx z ((strconv_Itoa.calls (H.Gt 0 z) E1).mono ?_))
 rintro _ w ⟨rfl,K⟩
 have H:=H.aV 0 z K
 refine⟨_,z,⟨fun _=>H.ag [0,1] z z,?_⟩⟩
 obtain⟨g1,E⟩:=ar E
 refine wg 13 z (H.ag [0,1] z z) (cJ z z g1) ?_
 obtain⟨g2,E⟩:=ar E
 refine wg 14 z (H.ag [0,1] z z) (cJ z z g2) (wg 15 z (H.ag [0,1] z z) (sg (.string (cat (cat (cat (cat (cat (cat lf x2) gX) x6) gX) x1) sr)) z) (wd (ab (aj ?_))))
 cases E
 exact⟨.inl z,_,tk0 z ⟨aB z (ad ai),z,H.bA 0 z⟩⟩
def fh.l0:Nat→List Int→ByteArray→Int→Option (ByteArray)
 |0,_,_,_=>none
 |k+1,a0,x1,x2=>bif decide (x2<(a0.length:Int))then(an (decide ((0:Int)≤x2∧x2<(a0.length:Int))) (an (decide ((0:Int)≤x2∧x2<(a0.length:Int))) (an (decide ((0:Int)≤u8.wrap (Int.tdiv (at_ 0 a0 x2) 16)∧u8.wrap (Int.tdiv (at_ 0 a0 x2) 16)≤u8.wrap (u8.wrap (Int.tdiv (at_ 0 a0 x2) 16)+1)∧u8.wrap (u8.wrap (Int.tdiv (at_ 0 a0 x2) 16)+1)≤(jA.size:Int))) (an (decide ((x1.size+(ext jA (u8.wrap (Int.tdiv (at_ 0 a0 x2) 16)) (u8.wrap (u8.wrap (Int.tdiv (at_ 0 a0 x2) 16)+1))).size:Nat)≤140737488355328)) (an (decide ((0:Int)≤x2∧x2<(a0.length:Int))) (an (decide ((0:Int)≤x2∧x2<(a0.length:Int))) (an (decide ((0:Int)≤Int.tmod (at_ 0 a0 x2) 16∧Int.tmod (at_ 0 a0 x2) 16≤u8.wrap (Int.tmod (at_ 0 a0 x2) 16+1)∧u8.wrap (Int.tmod (at_ 0 a0 x2) 16+1)≤(jA.size:Int))) (an (decide (((cat x1 (ext jA (u8.wrap (Int.tdiv (at_ 0 a0 x2) 16)) (u8.wrap (u8.wrap (Int.tdiv (at_ 0 a0 x2) 16)+1)))).size+(ext jA (Int.tmod (at_ 0 a0 x2) 16) (u8.wrap (Int.tmod (at_ 0 a0 x2) 16+1))).size:Nat)≤140737488355328)) (fh.l0 k a0 (cat (cat x1 (ext jA (u8.wrap (Int.tdiv (at_ 0 a0 x2) 16)) (u8.wrap (u8.wrap (Int.tdiv (at_ 0 a0 x2) 16)+1)))) (ext jA (Int.tmod (at_ 0 a0 x2) 16) (u8.wrap (Int.tmod (at_ 0 a0 x2) 16+1)))) (i64.wrap (x2+1)))))))))))else(some x1)
def fh.f(k:Nat)(a0:List Int):Option (ByteArray):=bif decide ((a0.length:Int)=0)then(some mc)else(fh.l0 k a0 dp 0)
theorem fh.calls{w0:World}{k:Nat}{a0:List Int}{v0_:Value}{r:ByteArray}(h0:Rd (.of (.int .u8)) w0 (Ol no w0) v0_ a0)(E:fh.f k a0=some r):
 Calls aa 11 #[v0_] w0 fun e w'=>e= .returned (.string r)∧St no w0 w' []:=by
 have H:=St.nil no w0
 unfold fh.f at E
 refine aP (N:=42) (args:=[v0_]) Tryz.func11 z z (by simp) ?_
 refine rg (va (.string dp) (nl (ae (rg (vm v0_ (vr (aY su (H.rd h0) z) (vr (cg z z) (nl ?_))))))))
 refine aE E z (fun c2 E=>?_) (fun c2 E=>?_)
 ·refine rg (va (.string mc) (nl (aj ?_)))
  cases E
  exact(aL ⟨.inl z,_,tk0 z ⟨aB z (ad ai),z,H.bs⟩⟩)
 ·refine aA (ab (rg (va (.string dp) (nl (ae (rg (va (ii 0) (nl (aG ?_)))))))))
  refine bx (fun kk t w=>∃(x1:ByteArray)(x2:Int)(t1:Fr),kk≤k∧fh.l0 kk a0 x1 x2=some r∧t=aU t1 [(0,v0_),(2,.string dp),(3,.string x1),(4,ii x2),(1000000,undef)]∧St no w0 w []) k ?_ ?_
  ·exact⟨_,_,_,aI _,E,aD ⟨z,z,z,z,z,trivial⟩,H⟩
  rintro kk t w ⟨x1,x2,t1,hk1,E,rfl,H⟩
  obtain⟨k1,rfl⟩|rfl:=ks kk
  rotate_left
  ·cases E
  rw[fh.l0]at E
  refine ae (rg (vm (ii x2) (vm v0_ (vr (aY su (H.rd h0) z) (vr (aZ z z) (nl ?_))))))
  refine aE E z (fun c1 E=>?_) (fun c1 E=>?_)
  ·refine aA (ab (ae (aG (cd (ds:=[]) yi H z z ?_))))
   have H:=H.drew
   refine wm 0 z H (.string x1) (wm 1 z H v0_ (wm 2 z H (ii x2) ?_))
   obtain⟨⟨g1,g2⟩,E⟩:=ar E
   refine wz 3 z H (fun w H=>bo mb (H.rd h0) z z g1 g2) (wz 4 z H (fun w H=>bq oS (H.rd h0) g1 g2 z) (wg 5 z H (ie z z (by decide)) (wm 6 z H v0_ (wm 7 z H (ii x2) ?_))))
   obtain⟨⟨g3,g4⟩,E⟩:=ar E
   refine wz 8 z H (fun w H=>bo mb (H.rd h0) z z g3 g4) (wz 9 z H (fun w H=>bq oS (H.rd h0) g3 g4 z) (wg 10 z H (ie z z (by decide)) (wg 11 z H (aO z z) ?_)))
   obtain⟨⟨g5,g6,g7⟩,E⟩:=ar E
   refine wg 12 z H (uo Tryz.underlying9 z z z g5 g6 g7) ?_
   obtain⟨g8,E⟩:=ar E
   refine wg 13 z H (cJ z z g8) (wm 14 z H v0_ (wm 15 z H (ii x2) ?_))
   obtain⟨⟨g9,g10⟩,E⟩:=ar E
   refine wz 16 z H (fun w H=>bo mb (H.rd h0) z z g9 g10) (wz 17 z H (fun w H=>bq oS (H.rd h0) g9 g10 z) (wg 18 z H (fg z z (by decide)) (wm 19 z H v0_ (wm 20 z H (ii x2) ?_))))
   obtain⟨⟨g11,g12⟩,E⟩:=ar E
   refine wz 21 z H (fun w H=>bo mb (H.rd h0) z z g11 g12) (wz 22 z H (fun w H=>bq oS (H.rd h0) g11 g12 z) (wg 23 z H (fg z z (by decide)) (wg 24 z H (aO z z) ?_)))
   obtain⟨⟨g13,g14,g15⟩,E⟩:=ar E
   refine wg 25 z H (uo Tryz.underlying9 z z z g13 g14 g15) ?_
   obtain⟨g16,E⟩:=ar E
   refine wg 26 z H (cJ z z g16) (wg 27 z H (sg (.string (cat (cat x1 (ext jA (u8.wrap (Int.tdiv (at_ 0 a0 x2) 16)) (u8.wrap (u8.wrap (Int.tdiv (at_ 0 a0 x2) 16)+1)))) (ext jA (Int.tmod (at_ 0 a0 x2) 16) (u8.wrap (Int.tmod (at_ 0 a0 x2) 16+1))))) z) (wd (aR (ab (aH (vm (ii x2) (vr (aO z z) (va (ii (i64.wrap (x2+1))) (aK ?_)))))))))
   exact⟨k1,bL _,_,_,_,bK hk1,E,aD ⟨z,z,z,z,z,trivial⟩,H⟩
  ·refine bt (aM (aM (bu (ab (rg (vm (.string x1) (va (.string x1) (nl (aj ?_)))))))))
   cases E
   exact⟨.inl z,_,tk0 z ⟨aB z (ad ai),z,H.bs⟩⟩
def kB:ByteArray:=⟨#[]⟩
theorem na:((#[65]:Array TypeId)[0]?).bind Tryz.prog.underlying=some (.slice 9):=iD Tryz.underlying65
theorem ig:Sl aa 65 9 1 16 (.string ByteArray.empty):=ja Tryz.underlying65 (by kernel_rfl) z (by decide)
theorem xc:En aa 66:=⟨_,_,Tryz.func66,by kernel_rfl,z⟩
theorem qi:Sc aa 9:=⟨_,Tryz.underlying9,z⟩
theorem xd:En aa 70:=⟨_,_,Tryz.func70,by kernel_rfl,z⟩
theorem On:En aa 67:=⟨_,_,Tryz.func67,by kernel_rfl,z⟩
theorem Oo:En aa 69:=⟨_,_,Tryz.func69,by kernel_rfl,z⟩
theorem Oq:En aa 71:=⟨_,_,Tryz.func71,by kernel_rfl,z⟩
theorem rU:Zr aa 24 #[ii 0,ii 0,ii 0]:=⟨.agg #[ii 0,ii 0,ii 0],by kernel_rfl,z⟩
theorem xb:Bd aa 24 #[ii 0,ii 0,ii 0] [(0,1),(1,1),(2,1)]:=⟨_,.agg #[ii 0,ii 0,ii 0],Tryz.underlying24,by kernel_rfl,z,fun w=>by kernel_rfl⟩
theorem qj:Sz aa 24 3:=by show _=_;kernel_rfl
theorem xn:Sl aa 147 60 2 16 (.agg #[ii 0,ii 0]):=ja Tryz.underlying147 (by kernel_rfl) z (by decide)
theorem Oy(w:World)(a0 b0 a1 b1:Int):(Op.equalIn 10000 60 (.agg #[ii a0,ii a1]) (.agg #[ii b0,ii b1])).run aa w= .ok ((a0==b0)&&(a1==b1)) w:=by
 refine IC Tryz.underlying60 (by kernel_rfl) ?_
 refine ID (by rfl) (by go_simp;rfl) (by go_simp;rfl) (by go_simp) ?_
 exact IE (by rfl) (by go_simp;rfl) (by go_simp;rfl) (by go_simp)
theorem Oc:En aa 31:=⟨_,_,Tryz.func31,by kernel_rfl,z⟩
theorem N7:Bd aa 121 #[.int .u32 0,.int .i32 0,.int .u32 0,.int .i32 0,.pointer none,.int .u32 0,.int .i32 0,.int .u32 0,.int .i32 0,.pointer none,.int .u32 0,.int .i32 0,.int .u32 0,.int .i32 0,.pointer none,.int .u32 0,.int .i32 0,.int .u32 0,.int .i32 0,.pointer none,ii 0,ii 0,ii 0,ii 0,ii 0,ii 0,ii 0,ii 0,ii 0,ii 0,ii 0,ii 0,ii 0,ii 0,ii 0,ii 0] [(0,20),(20,16)]:=⟨_,.agg #[.int .u32 0,.int .i32 0,.int .u32 0,.int .i32 0,.pointer none,.int .u32 0,.int .i32 0,.int .u32 0,.int .i32 0,.pointer none,.int .u32 0,.int .i32 0,.int .u32 0,.int .i32 0,.pointer none,.int .u32 0,.int .i32 0,.int .u32 0,.int .i32 0,.pointer none,ii 0,ii 0,ii 0,ii 0,ii 0,ii 0,ii 0,ii 0,ii 0,ii 0,ii 0,ii 0,ii 0,ii 0,ii 0,ii 0],Tryz.underlying121,by kernel_rfl,z,fun w=>by kernel_rfl⟩
theorem Oa:Bd aa 62 #[.pointer none,ii 0,ii 0,ii 0,ii 0,ii 0,sn,sn] [(0,1),(1,3),(4,2),(6,1),(7,1)]:=⟨_,.agg #[.pointer none,ii 0,ii 0,ii 0,ii 0,ii 0,sn,sn],Tryz.underlying62,by kernel_rfl,z,fun w=>by kernel_rfl⟩
def dJ:ByteArray:=⟨#[99,111,100,101]⟩
def dK:ByteArray:=⟨#[112,105,99,107]⟩
def dT:ByteArray:=⟨#[101,110,99,111,100,101]⟩
def dU:ByteArray:=⟨#[100,101,99,111,100,101]⟩
def dV:ByteArray:=⟨#[115,121,110,100]⟩
def dW:ByteArray:=⟨#[115,101,110,100]⟩
def dS:ByteArray:=⟨#[98,117,114,115,116]⟩
def ez:ByteArray:=⟨#[102,108,97,103]⟩
def eA:ByteArray:=⟨#[116,97,107,101]⟩
def eB:ByteArray:=⟨#[97,115,107,101,100]⟩
def du:ByteArray:=⟨#[10]⟩
theorem CA:En aa 42:=⟨_,_,Tryz.func42,by kernel_rfl,z⟩
theorem Ok:En aa 43:=⟨_,_,Tryz.func43,by kernel_rfl,z⟩
theorem OT:Zr aa 70 #[.pointer none,sn]:=⟨.agg #[.pointer none,sn],by kernel_rfl,z⟩
def bU:ByteArray:=⟨#[32]⟩
def cO:ByteArray:=⟨#[98,97,100]⟩
theorem oy:(Tryz.prog.info? 63).bind (·.zero)=some .nilFunc:=by kernel_rfl
theorem Od:En aa 32:=⟨_,_,Tryz.func32,by kernel_rfl,z⟩
theorem rS:En aa 68:=⟨_,_,Tryz.func68,by kernel_rfl,z⟩
theorem uf:Fa aa 62 1 1:=⟨_,_,Tryz.underlying62,z,z,2,by kernel_rfl⟩
def mZ:ByteArray:=⟨#[111,107]⟩
theorem ot:En aa 44:=⟨_,_,Tryz.func44,by kernel_rfl,z⟩
theorem Oe:En aa 33:=⟨_,_,Tryz.func33,by kernel_rfl,z⟩
theorem xg:Fa aa 62 2 4:=⟨_,_,Tryz.underlying62,z,z,1,by kernel_rfl⟩
theorem Og:En aa 34:=⟨_,_,Tryz.func34,by kernel_rfl,z⟩
theorem xf:Fa aa 62 0 0:=⟨_,_,Tryz.underlying62,z,z,0,by kernel_rfl⟩
theorem xm:Sc aa 57:=⟨_,Tryz.underlying57,z⟩
theorem qg:En aa 72:=⟨_,_,Tryz.func72,by kernel_rfl,z⟩
theorem Oh:En aa 35:=⟨_,_,Tryz.func35,by kernel_rfl,z⟩
theorem CB:En aa 73:=⟨_,_,Tryz.func73,by kernel_rfl,z⟩
theorem CE:Fa aa 33 1 1:=⟨_,_,Tryz.underlying33,z,z,0,by kernel_rfl⟩
theorem CD:Fa aa 33 0 0:=⟨_,_,Tryz.underlying33,z,z,0,by kernel_rfl⟩
theorem CF:Fa aa 33 2 2:=⟨_,_,Tryz.underlying33,z,z,0,by kernel_rfl⟩
def CK:ByteArray:=⟨#[44]⟩
theorem xe:En aa 75:=⟨_,_,Tryz.func75,by kernel_rfl,z⟩
theorem CC:En aa 74:=⟨_,_,Tryz.func74,by kernel_rfl,z⟩
theorem Oi:En aa 36:=⟨_,_,Tryz.func36,by kernel_rfl,z⟩
theorem Ou:En aa 77:=⟨_,_,Tryz.func77,by kernel_rfl,z⟩
theorem N9:Bd aa 187 #[] []:=⟨_,.agg #[],Tryz.underlying187,by kernel_rfl,z,fun w=>by kernel_rfl⟩
theorem N8:Bd aa 186 #[.nilIface,ii 0] [(0,1),(1,1)]:=⟨_,.agg #[.nilIface,ii 0],Tryz.underlying186,by kernel_rfl,z,fun w=>by kernel_rfl⟩
theorem Ot:En aa 76:=⟨_,_,Tryz.func76,by kernel_rfl,z⟩
theorem Oj:En aa 41:=⟨_,_,Tryz.func41,by kernel_rfl,z⟩
theorem Ov:En aa 83:=⟨_,_,Tryz.func83,by kernel_rfl,z⟩
theorem OS:((#[147]:Array TypeId)[0]?).bind Tryz.prog.underlying=some (.slice 60):=iD Tryz.underlying147
theorem Ow:En aa 84:=⟨_,_,Tryz.func84,by kernel_rfl,z⟩
theorem Om:En aa 45:=⟨_,_,Tryz.func45,by kernel_rfl,z⟩
def fQ.j0(l0r:(List (Int×Int))→Int→Int→Option (List (Int×Int)))(k:Nat)(l1:List (Int×Int))(x1 x2:Int):Option (List (Int×Int)):=an (decide ((l1.length+([(x1,x2)]).length)*16≤140737488355328)) (bif (x1==3)&&(x2==3)then(some (l1++([(x1,x2)])))else(l0r (l1++([(x1,x2)])) x1 (i64.wrap (x2+1))))
def fQ.l0:Nat→List (Int×Int)→Int→Int→Option (List (Int×Int))
 |0,_,_,_=>none
 |k+1,l1,x1,x2=>bif decide (3<x2)then(fQ.j0 (fQ.l0 k) k l1 (i64.wrap (x1+1)) 1)else(fQ.j0 (fQ.l0 k) k l1 x1 x2)
def fQ.f(k:Nat):Option (List (Int×Int)):=fQ.l0 k ([]:List (Int×Int)) 1 1
theorem fQ.calls{w0:World}{k:Nat}{r:(List (Int×Int))}(E:fQ.f k=some r):
 Calls aa 83 #[] w0 fun e w'=>∃(u0:Value),e= .returned (u0)∧St no w0 w' [.own (.pr (.int .i64) (.int .i64)) 60 u0 r]:=by
 have H:=St.nil no w0
 unfold fQ.f at E
 refine aP (N:=25) (args:=[]) Tryz.func83 z z (by simp) ?_
 refine rg (va sn (nl (rg (va sn (nl (rg (vr (cf (cs:=[ii 1,ii 1]) qT z) (ye (cr q9 H (fun b1 w H=>s_ (cy lz H 0 z z z z z z (fun w H=>nl (aG ?_)))))))))))))
 have H:=H.bB (.pr (.int .i64) (.int .i64)) 60
 refine bx (fun kk t w=>∃(l1:List (Int×Int))(x1 x2:Int)(b2:Nat)(v1:Value)(t1:Fr),kk≤k∧fQ.l0 kk l1 x1 x2=some r∧t=aU t1 [(0,sn),(1,v1),(2,pt b2),(1000000,undef)]∧St no w0 w [.blk b2 #[ii x1,ii x2] 60,.own (.pr (.int .i64) (.int .i64)) 60 v1 l1]) k ?_ ?_
 ·exact⟨_,_,_,_,_,_,aI _,E,aD ⟨z,z,z,z,trivial⟩,H⟩
 rintro kk t w ⟨l1,x1,x2,b2,v1,t1,hk1,E,rfl,H⟩
 obtain⟨k1,rfl⟩|rfl:=ks kk
 rotate_left
 ·cases E
 rw[fQ.l0]at E
 refine ae (aG ?_)
 refine cA (fun t w=>∃(k2:Nat)(x3 x4:Int)(t2:Fr),k2≤k1∧fQ.j0 (fQ.l0 k2) k2 l1 x3 x4=some r∧t=aU t2 [(0,sn),(1,v1),(2,pt b2),(1000000,undef)]∧St no w0 w [.blk b2 #[ii x3,ii x4] 60,.own (.pr (.int .i64) (.int .i64)) 60 v1 l1]) ?_ ?_
 ·refine rg (vr (az mo z) (vr (av bf z (ak (H.Gt 0 z) z)) (vr (dy z z) (nl ?_))))
  refine aE E z (fun c1 E=>?_) (fun c1 E=>?_)
  ·refine aH (vr (az pw z) (vr (av bf z (ak (H.Gt 0 z) z)) (vr (aO z z) (vr (az pw z) (s_ (cQ gJ H 0 z z z z z (fun w H=>vr (az mo z) (s_ (cQ gJ H 0 z z z z z (fun w H=>aK ?_))))))))))
   exact⟨k1,_,_,_,aI _,E,aD ⟨z,z,z,z,trivial⟩,H⟩
  ·refine aA ?_
   exact⟨k1,_,_,_,aI _,E,aD ⟨z,z,z,z,trivial⟩,H⟩
 rintro t w ⟨k2,x3,x4,t2,hk2,E,rfl,H⟩
 unfold fQ.j0 at E
 refine rg (vm v1 (vr (bp (l:=[ii x3,ii x4]) gH (H.Gt 0 z) z z z) (ye (cL (e:=(.pr (.int .i64) (.int .i64))) (l:=[(x3,x4)]) xn H z (by decide) ⟨z,z,trivial⟩ (by decide) (fun v2 w H=>?_)))))
 obtain⟨g1,E⟩:=ar E
 refine ye (dZ xn H 1 z (ao (H.Gt 2 z)) z z (by omega) (by unfold maxLen;omega) (fun v3 w H=>va v3 (nl (rg (vr (bp (l:=[ii x3,ii x4]) gH (H.Gt 0 z) z z z) (vr (cf (cs:=[ii 3,ii 3]) qT z) (vr (Ox (by kernel_rfl) (Oy _ x3 3 x4 3) z z) (nl ?_))))))))
 refine aE E z (fun c2 E=>?_) (fun c2 E=>?_)
 ·refine rg (vm v3 (va v3 (nl (aj ?_))))
  cases E
  exact(bG (aL (aL (bG ⟨.inl z,_,tk0 z ⟨aB z (ad ai),_,z,H.bA 1 z⟩⟩))))
 ·refine aA (aR (ab (ae (rg (vr (bp (l:=[ii x3,ii x4]) gH (H.Gt 0 z) z z z) (nl (aH (ye (cr q9 H (fun b3 w H=>s_ (cy lz H 3 z z z z z z (fun w H=>nl (aH (vr (az mo z) (vr (av bf z (ak (H.Gt 3 z) z)) (vr (aO z z) (vr (az mo z) (s_ (cQ gJ H 3 z z z z z (fun w H=>aK ?_))))))))))))))))))))
  exact⟨k2,by omega,_,_,_,_,_,_,by omega,E,aD ⟨z,z,z,z,trivial⟩,H.ag [3,1] z z⟩
end Go.Proofs.YtmhkpafkadijgaaGreatDoor.Gw
