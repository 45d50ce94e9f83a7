/- A part of the proof of Rows.PlayAskedCardSaid; the conditions are that card's own. -/
import Derived.Test.YtmhkpafkadijgaaGreatDoorQ27
set_option linter.all false
set_option maxRecDepth 100000
set_option maxHeartbeats 4000000
namespace Go.Proofs.YtmhkpafkadijgaaGreatDoor.Gw
open Go Go.RowKit
variable[de]
open Go.IntKind (i8 i16 i32 i64 u8 u16 u32 u64)
open Tryz renaming prog → aa
def bg.j0(l0r:List (ByteArray)→List Int→ByteArray→Int→Int→Int→Int→Int→Int→Option ByteArray)(k:Nat)(l1:List ByteArray):Option (ByteArray):=l0r l1 (List.replicate 16 (0:Int)) ByteArray.empty 7 3 0 0 0 0
def bg.j1(l0r:List (ByteArray)→List Int→ByteArray→Int→Int→Int→Int→Int→Int→Option ByteArray)(k:Nat)(l1:List ByteArray)(l2:List Int)(l3:ByteArray)(x1 x2 x3 x4 x5 x6:Int)(x7:ByteArray):Option (ByteArray):=an (decide ((x7.size+du.size:Nat)≤140737488355328)) (an (decide (l3.size+(cat x7 du).size≤140737488355328)) (l0r l1 l2 (cat l3 (cat x7 du)) x4 x5 x6 x1 x2 (i64.wrap (x3+1))))
def bg.j2(l0r:List (ByteArray)→List Int→ByteArray→Int→Int→Int→Int→Int→Int→Option ByteArray)(k:Nat)(l1:List ByteArray)(l2:List Int)(l3:ByteArray)(x1 x2 x3 x4 x5 x6:Int)(x7:ByteArray):Option (ByteArray):=an (decide ((x7.size+du.size:Nat)≤140737488355328)) (an (decide (l3.size+(cat x7 du).size≤140737488355328)) (l0r l1 l2 (cat l3 (cat x7 du)) x1 x2 x3 x5 x6 (i64.wrap (x4+1))))
def bg.j3(l0r:List (ByteArray)→List Int→ByteArray→Int→Int→Int→Int→Int→Int→Option ByteArray)(k:Nat)(l1:List ByteArray)(l2:ByteArray)(x1 x2 x3 x4 x5 x6:Int)(l3:List Int)(x7:ByteArray):Option (ByteArray):=an (decide ((x7.size+du.size:Nat)≤140737488355328)) (an (decide (l2.size+(cat x7 du).size≤140737488355328)) (l0r l1 l3 (cat l2 (cat x7 du)) x1 x2 x3 x4 x5 (i64.wrap (x6+1))))
def bg.j4(l0r:List (ByteArray)→List Int→ByteArray→Int→Int→Int→Int→Int→Int→Option ByteArray)(k:Nat)(l1:List ByteArray)(l2:ByteArray)(x1 x2 x3 x4 x5 x6:Int)(l3:List Int)(x7:ByteArray):Option (ByteArray):=an (decide ((x7.size+du.size:Nat)≤140737488355328)) (an (decide (l2.size+(cat x7 du).size≤140737488355328)) (l0r l1 l3 (cat l2 (cat x7 du)) x1 x2 x3 x4 x5 (i64.wrap (x6+1))))
def bg.j5(l0r:List (ByteArray)→List Int→ByteArray→Int→Int→Int→Int→Int→Int→Option ByteArray)(k:Nat)(l1:List ByteArray)(l2:List Int)(l3:ByteArray)(x1 x2 x3 x4 x5 x6:Int)(x7:ByteArray):Option (ByteArray):=an (decide ((x7.size+du.size:Nat)≤140737488355328)) (an (decide (l3.size+(cat x7 du).size≤140737488355328)) (l0r l1 l2 (cat l3 (cat x7 du)) x1 x2 x3 x4 x5 (i64.wrap (x6+1))))
def bg.j6(l0r:List (ByteArray)→List Int→ByteArray→Int→Int→Int→Int→Int→Int→Option ByteArray)(k:Nat)(l1:List ByteArray)(l2:ByteArray)(x1 x2 x3 x4 x5 x6:Int)(l3:List Int)(x7:ByteArray):Option (ByteArray):=an (decide ((x7.size+du.size:Nat)≤140737488355328)) (an (decide (l2.size+(cat x7 du).size≤140737488355328)) (l0r l1 l3 (cat l2 (cat x7 du)) x1 x2 x3 x4 x5 (i64.wrap (x6+1))))
mutual
def bg.l0:Nat→List (ByteArray)→List Int→ByteArray→Int→Int→Int→Int→Int→Int→Option (ByteArray)
 |0,_,_,_,_,_,_,_,_,_=>none
 |k+1,l1,l2,l3,x1,x2,x3,x4,x5,x6=>bif decide (x6<(l1.length:Int))then(an (decide ((0:Int)≤x6∧x6<(l1.length:Int))) ((strings_Split.f (at_ ByteArray.empty l1 x6) bU).bind fun x7=>an (decide ((0:Int)≤0∧0<(x7.length:Int))) (bif decide (at_ ByteArray.empty x7 0=dJ)then(an (decide ((0:Int)≤1∧1≤(x7.length:Int))) ((fR.f k ((x7.take x7.length).drop ((1:Int).toNat))).bind fun x8=>bif !x8.2 then(bg.j1 (bg.l0 k) k l1 l2 l3 x4 x5 x6 x1 x2 x3 cO)else(bif !decide ((x8.1.length:Int)=3)then(bg.j1 (bg.l0 k) k l1 l2 l3 x4 x5 x6 x1 x2 x3 cO)else(an (decide ((0:Int)≤0∧0<(x8.1.length:Int))) (an (decide ((0:Int)≤1∧1<(x8.1.length:Int))) (an (decide ((0:Int)≤2∧2<(x8.1.length:Int))) ((dh.f (at_ 0 x8.1 0,at_ 0 x8.1 1,at_ 0 x8.1 2)).bind fun x9=>bif !decide (x9=0)then((jT.f x9).bind fun x10=>bg.j1 (bg.l0 k) k l1 l2 l3 x4 x5 x6 x1 x2 x3 x10)else(bg.j1 (bg.l0 k) k l1 l2 l3 x4 x5 x6 (at_ 0 x8.1 0) (at_ 0 x8.1 1) (at_ 0 x8.1 2) mZ))))))))else(bif decide (at_ ByteArray.empty x7 0=dK)then(an (decide ((0:Int)≤1∧1≤(x7.length:Int))) ((fR.f k ((x7.take x7.length).drop ((1:Int).toNat))).bind fun x11=>bif !x11.2 then(bg.j2 (bg.l0 k) k l1 l2 l3 x1 x2 x3 x6 x4 x5 cO)else(bif !decide ((x11.1.length:Int)=2)then(bg.j2 (bg.l0 k) k l1 l2 l3 x1 x2 x3 x6 x4 x5 cO)else(an (decide ((0:Int)≤0∧0<(x11.1.length:Int))) (an (decide ((0:Int)≤1∧1<(x11.1.length:Int))) ((jS.f (at_ 0 x11.1 0,at_ 0 x11.1 1)).bind fun x12=>bif !decide (x12=0)then((jT.f x12).bind fun x13=>bg.j2 (bg.l0 k) k l1 l2 l3 x1 x2 x3 x6 x4 x5 x13)else(bg.j2 (bg.l0 k) k l1 l2 l3 x1 x2 x3 x6 (at_ 0 x11.1 0) (at_ 0 x11.1 1) mZ)))))))else(bif decide (at_ ByteArray.empty x7 0=dT)then(an (decide ((0:Int)≤1∧1≤(x7.length:Int))) (bif !decide ((((x7.take x7.length).drop ((1:Int).toNat)).length:Int)=1)then(bg.j3 (bg.l0 k) k l1 l3 x1 x2 x3 x4 x5 x6 l2 cO)else(an (decide ((0:Int)≤0∧0<(((x7.take x7.length).drop ((1:Int).toNat)).length:Int))) ((fx.f k (at_ ByteArray.empty ((x7.take x7.length).drop ((1:Int).toNat)) 0)).bind fun x14=>bif !x14.2 then(bg.j3 (bg.l0 k) k l1 l3 x1 x2 x3 x4 x5 x6 l2 cO)else((qO.f k l2 (x1,x2,x3) (x4,x5) x14.1).bind fun x15=>bif !decide (x15.1.2=0)then((jT.f x15.1.2).bind fun x16=>bg.j3 (bg.l0 k) k l1 l3 x1 x2 x3 x4 x5 x6 x15.2 x16)else((eM.f k x15.1.1).bind fun x17=>bg.j3 (bg.l0 k) k l1 l3 x1 x2 x3 x4 x5 x6 x15.2 x17))))))else(bif decide (at_ ByteArray.empty x7 0=dU)then(an (decide ((0:Int)≤1∧1≤(x7.length:Int))) (bif decide ((((x7.take x7.length).drop ((1:Int).toNat)).length:Int)=0)then(bg.j4 (bg.l0 k) k l1 l3 x1 x2 x3 x4 x5 x6 l2 cO)else(an (decide ((0:Int)≤0∧0<(((x7.take x7.length).drop ((1:Int).toNat)).length:Int))) ((fx.f k (at_ ByteArray.empty ((x7.take x7.length).drop ((1:Int).toNat)) 0)).bind fun x18=>an (decide ((0:Int)≤1∧1≤(((x7.take x7.length).drop ((1:Int).toNat)).length:Int))) ((fR.f k ((((x7.take x7.length).drop ((1:Int).toNat)).take (((x7.take x7.length).drop ((1:Int).toNat)).length)).drop ((1:Int).toNat))).bind fun x19=>bif !x18.2 then(bg.j4 (bg.l0 k) k l1 l3 x1 x2 x3 x4 x5 x6 l2 cO)else(bif !x19.2 then(bg.j4 (bg.l0 k) k l1 l3 x1 x2 x3 x4 x5 x6 l2 cO)else((mi.f k l2 (x1,x2,x3) (x4,x5) x18.1 x19.1).bind fun x20=>bif !decide (x20.1.2=0)then((jT.f x20.1.2).bind fun x21=>bg.j4 (bg.l0 k) k l1 l3 x1 x2 x3 x4 x5 x6 x20.2 x21)else((eM.f k x20.1.1.2.1).bind fun x22=>(eM.f k x20.1.1.1).bind fun x23=>(bM.f k x20.1.1.2.2 CK).bind fun x24=>(kV.f ([x22,x23,x24])).bind fun x25=>bg.j4 (bg.l0 k) k l1 l3 x1 x2 x3 x4 x5 x6 x20.2 x25))))))))else(bif decide (at_ ByteArray.empty x7 0=dV)then(an (decide ((0:Int)≤1∧1≤(x7.length:Int))) (bif !decide ((((x7.take x7.length).drop ((1:Int).toNat)).length:Int)=1)then(bg.j5 (bg.l0 k) k l1 l2 l3 x1 x2 x3 x4 x5 x6 cO)else(an (decide ((0:Int)≤0∧0<(((x7.take x7.length).drop ((1:Int).toNat)).length:Int))) ((fx.f k (at_ ByteArray.empty ((x7.take x7.length).drop ((1:Int).toNat)) 0)).bind fun x26=>bif !x26.2 then(bg.j5 (bg.l0 k) k l1 l2 l3 x1 x2 x3 x4 x5 x6 cO)else((lU.f k (x1,x2,x3) x26.1).bind fun x27=>(eM.f k x27).bind fun x28=>bg.j5 (bg.l0 k) k l1 l2 l3 x1 x2 x3 x4 x5 x6 x28)))))else(bif decide (at_ ByteArray.empty x7 0=dW)then(none)else(bif decide (at_ ByteArray.empty x7 0=dS)then(none)else(bif decide (at_ ByteArray.empty x7 0=ez)then(none)else(bif decide (at_ ByteArray.empty x7 0=eA)then(none)else(bif decide (at_ ByteArray.empty x7 0=eB)then(an (decide ((0:Int)≤1∧1≤(x7.length:Int))) (bif decide (0<(((x7.take x7.length).drop ((1:Int).toNat)).length:Int))then(bg.j6 (bg.l0 k) k l1 l3 x1 x2 x3 x4 x5 x6 l2 cO)else((fQ.f k).bind fun x29=>bg.l1 k l1 l3 x1 x2 x3 x4 x5 x6 x29 l2 ([]:List Int) 0)))else(an (decide ((cO.size+du.size:Nat)≤140737488355328)) (an (decide (l3.size+(cat cO du).size≤140737488355328)) (bg.l0 k l1 l2 (cat l3 (cat cO du)) x1 x2 x3 x4 x5 (i64.wrap (x6+1)))))))))))))))))else(some l3)
def bg.l1:Nat→List (ByteArray)→ByteArray→Int→Int→Int→Int→Int→Int→(List (Int×Int))→List Int→List (Int)→Int→Option (ByteArray)
 |0,_,_,_,_,_,_,_,_,_,_,_,_=>none
 |k+1,l1,l3,x1,x2,x3,x4,x5,x6,x29,l4,l5,x30=>bif decide (x30<(x29.length:Int))then(an (decide ((0:Int)≤x30∧x30<(x29.length:Int))) ((qN.f l4 ((at_ (0,0) x29 x30).1,(at_ (0,0) x29 x30).2)).bind fun x31=>an (decide ((l5.length+([x31.1]).length)*8≤140737488355328)) (bg.l1 k l1 l3 x1 x2 x3 x4 x5 x6 x29 x31.2 (l5++([x31.1])) (i64.wrap (x30+1)))))else((bM.f k l5 bU).bind fun x32=>bg.j6 (bg.l0 k) k l1 l3 x1 x2 x3 x4 x5 x6 l4 x32)
end
def bg.f(k:Nat)(a0:ByteArray):Option (ByteArray):=(strings_Split.f a0 du).bind fun x5=>an (decide ((0:Int)≤i64.wrap ((x5.length:Int)-1)∧i64.wrap ((x5.length:Int)-1)<(x5.length:Int))) (bif decide (at_ ByteArray.empty x5 (i64.wrap ((x5.length:Int)-1))=kB)then(an (decide ((0:Int)≤i64.wrap ((x5.length:Int)-1)∧i64.wrap ((x5.length:Int)-1)≤(x5.length:Int)∧(x5.length:Int)≤x5.length∧0<x5.length)) (bg.j0 (bg.l0 k) k (x5.take (i64.wrap ((x5.length:Int)-1)).toNat++x5.drop (x5.length:Int).toNat)))else(bg.j0 (bg.l0 k) k x5))
theorem bg.calls{w0:World}{k:Nat}{a0 r:ByteArray}(hf:(Rs.env).inv w0)(E:bg.f k a0=some r):
 Calls aa 13 #[.string a0] w0 fun e w'=>e= .returned (.string r)∧St (Rs.env).fp w0 w' [.gt,.lv]:=by
 have H:=vD hf
 unfold bg.f at E
 refine aP (N:=78) (args:=[.string a0]) Tryz.func13 z z (by simp) ?_
 refine rg (va (.string kB) (nl (rg (ye (cm 3 [] Oc Tryz.func31 z z z z (rg (va (.pointer none) (nl (rg (vr (cf (cs:=[.int .u32 0,.int .i32 0,.int .u32 0,.int .i32 0,.pointer none,.int .u32 0,.int .i32 0,.int .u32 0,.int .i32 0,.pointer none,.int .u32 0,.int .i32 0,.int .u32 0,.int .i32 0,.pointer none,.int .u32 0,.int .i32 0,.int .u32 0,.int .i32 0,.pointer none,ii 0,ii 0,ii 0,ii 0,ii 0,ii 0,ii 0,ii 0,ii 0,ii 0,ii 0,ii 0,ii 0,ii 0,ii 0,ii 0]) N7 z) (ye (QT (cs:=[.int .u32 0,.int .i32 0,.int .u32 0,.int .i32 0,.pointer none,.int .u32 0,.int .i32 0,.int .u32 0,.int .i32 0,.pointer none,.int .u32 0,.int .i32 0,.int .u32 0,.int .i32 0,.pointer none,.int .u32 0,.int .i32 0,.int .u32 0,.int .i32 0,.pointer none,ii 0,ii 0,ii 0,ii 0,ii 0,ii 0,ii 0,ii 0,ii 0,ii 0,ii 0,ii 0,ii 0,ii 0,ii 0,ii 0]) H 0 z z z (fun b2 w H=>va (pt b2) (nl (aj (⟨.inl z,pt b2,tk0 z ⟨ba z (ad ai) z,vr (cf (cs:=[ii 7,ii 3,ii 0]) xb z) (vr (cf (cs:=[pt b2,ii 7,ii 3,ii 0,ii 0,ii 0,sn,sn]) Oa (by kernel_rfl)) (ye (bc (cs:=#[pt b2,ii 7,ii 3,ii 0,ii 0,ii 0,sn,sn]) H z (fun b3 w H=>va (pt b3) (nl (rg (ye (Ea H (fun b4 w H=>vm (pt b3) (vr (gw [pt b3] [] z z) (s_ (lb (v:=.func (.func 32) #[pt b3] #[]) Tryz.underlying9 Tryz.underlying64 H 3 z z z z (by kernel_rfl) (fun w H=>vm (pt b3) (vr (gw [pt b3] [] z z) (s_ (lb (v:=.func (.func 33) #[pt b3] #[]) Tryz.underlying9 Tryz.underlying64 H 3 z z z z (by kernel_rfl) (fun w H=>?_)))))))))))))))))⟩⟩))))))))))))))))
 have H:St (Rs.env).fp w0 _ [.gd b2 ⟨none,none,none⟩ (List.replicate 16 (0:Int)),.lv,.blk b3 #[pt b2,ii 7,ii 3,ii 0,ii 0,ii 0,sn,sn] 62,.mf b4 [(.string dJ,.func (.func 32) #[pt b3] #[]),(.string dK,.func (.func 33) #[pt b3] #[])]]:=H
 refine vm (pt b3) (vr (gw [pt b3] [] z z) (s_ (lb (v:=.func (.func 34) #[pt b3] #[]) Tryz.underlying9 Tryz.underlying64 H 3 z z z z (by kernel_rfl) (fun w H=>vm (pt b3) (vr (gw [pt b3] [] z z) (s_ (lb (v:=.func (.func 35) #[pt b3] #[]) Tryz.underlying9 Tryz.underlying64 H 3 z z z z (by kernel_rfl) (fun w H=>vm (pt b3) (vr (gw [pt b3] [] z z) (s_ (lb (v:=.func (.func 36) #[pt b3] #[]) Tryz.underlying9 Tryz.underlying64 H 3 z z z z (by kernel_rfl) (fun w H=>vm (pt b3) (vr (gw [pt b3] [] z z) (s_ (lb (v:=.func (.func 37) #[pt b3] #[]) Tryz.underlying9 Tryz.underlying64 H 3 z z z z (by kernel_rfl) (fun w H=>vm (pt b3) (vr (gw [pt b3] [] z z) (s_ (lb (v:=.func (.func 38) #[pt b3] #[]) Tryz.underlying9 Tryz.underlying64 H 3 z z z z (by kernel_rfl) (fun w H=>?_))))))))))))))))))))
 have H:St (Rs.env).fp w0 _ [.gd b2 ⟨none,none,none⟩ (List.replicate 16 (0:Int)),.lv,.blk b3 #[pt b2,ii 7,ii 3,ii 0,ii 0,ii 0,sn,sn] 62,.mf b4 [(.string dJ,.func (.func 32) #[pt b3] #[]),(.string dK,.func (.func 33) #[pt b3] #[]),(.string dT,.func (.func 34) #[pt b3] #[]),(.string dU,.func (.func 35) #[pt b3] #[]),(.string dV,.func (.func 36) #[pt b3] #[]),(.string dW,.func (.func 37) #[pt b3] #[]),(.string dS,.func (.func 38) #[pt b3] #[])]]:=H
 refine vm (pt b3) (vr (gw [pt b3] [] z z) (s_ (lb (v:=.func (.func 39) #[pt b3] #[]) Tryz.underlying9 Tryz.underlying64 H 3 z z z z (by kernel_rfl) (fun w H=>vm (pt b3) (vr (gw [pt b3] [] z z) (s_ (lb (v:=.func (.func 40) #[pt b3] #[]) Tryz.underlying9 Tryz.underlying64 H 3 z z z z (by kernel_rfl) (fun w H=>vm (pt b3) (vr (gw [pt b3] [] z z) (s_ (lb (v:=.func (.func 41) #[pt b3] #[]) Tryz.underlying9 Tryz.underlying64 H 3 z z z z (by kernel_rfl) (fun w H=>vm (.map (some b4)) (va (.map (some b4)) (nl (rg (vm (.string a0) ?_))))))))))))))))
 obtain⟨x5,E6,E⟩:=ay E
 refine ye (au CA z ((strings_Split.calls (H.Gt 1 z) E6).mono ?_))
 rintro _ w ⟨v7,rfl,K⟩
 have H:=H.aV 1 z K
 refine⟨_,z,va v7 (nl ?_)⟩
 refine cA (fun t w=>∃(k21:Nat)(l1:List ByteArray)(v1:Value)(t1:Fr),k21≤k∧bg.j0 (bg.l0 k21) k21 l1=some r∧t=aU t1 [(2,.string kB),(4,.map (some b4)),(5,v1),(1000000,undef)]∧St (Rs.env).fp w0 w [.gd b2 ⟨none,none,none⟩ (List.replicate 16 (0:Int)),.lv,.blk b3 #[pt b2,ii 7,ii 3,ii 0,ii 0,ii 0,sn,sn] 62,.mf b4 [(.string dJ,.func (.func 32) #[pt b3] #[]),(.string dK,.func (.func 33) #[pt b3] #[]),(.string dT,.func (.func 34) #[pt b3] #[]),(.string dU,.func (.func 35) #[pt b3] #[]),(.string dV,.func (.func 36) #[pt b3] #[]),(.string dW,.func (.func 37) #[pt b3] #[]),(.string dS,.func (.func 38) #[pt b3] #[]),(.string ez,.func (.func 39) #[pt b3] #[]),(.string eA,.func (.func 40) #[pt b3] #[]),(.string eB,.func (.func 41) #[pt b3] #[])],.own .str 9 v1 l1]) ?_ ?_
 ·refine rg (vm v7 (vm v7 (vr (aY na (ao (H.Gt 4 z)) z) (vr (bV z z) ?_))))
  obtain⟨⟨g1,g2⟩,E⟩:=ar E
  refine vr (bo ig (ao (H.Gt 4 z)) z z g1 g2) (vr (lO (e:=.str) (j:=0) qi (ao (H.Gt 4 z)) (ga ByteArray.empty g1 g2) z z) (vr (ov z z) (nl ?_)))
  refine aE E z (fun c1 E=>?_) (fun c1 E=>?_)
  ·refine aH (vm v7 (vm v7 (vr (aY na (ao (H.Gt 4 z)) z) (vr (bV z z) (vm v7 (vr (aY na (ao (H.Gt 4 z)) z) ?_))))))
   obtain⟨⟨g3,g4,g5,g6⟩,E⟩:=ar E
   refine ye (Q2 H 4 z Ok z z z g3 g4 g5 g6 (fun v2 w H=>?_))
   have H:St (Rs.env).fp w0 _ [.gd b2 ⟨none,none,none⟩ (List.replicate 16 (0:Int)),.lv,.blk b3 #[pt b2,ii 7,ii 3,ii 0,ii 0,ii 0,sn,sn] 62,.mf b4 [(.string dJ,.func (.func 32) #[pt b3] #[]),(.string dK,.func (.func 33) #[pt b3] #[]),(.string dT,.func (.func 34) #[pt b3] #[]),(.string dU,.func (.func 35) #[pt b3] #[]),(.string dV,.func (.func 36) #[pt b3] #[]),(.string dW,.func (.func 37) #[pt b3] #[]),(.string dS,.func (.func 38) #[pt b3] #[]),(.string ez,.func (.func 39) #[pt b3] #[]),(.string eA,.func (.func 40) #[pt b3] #[]),(.string eB,.func (.func 41) #[pt b3] #[])],.own .str 9 v2 (x5.take (i64.wrap ((x5.length:Int)-1)).toNat++x5.drop (x5.length:Int).toNat)]:=H
   refine va v2 (aK ?_)
   exact⟨k,_,_,_,aI _,E,aD ⟨z,z,z,z,trivial⟩,H⟩
  ·refine aA ?_
   exact⟨k,_,_,_,aI _,E,aD ⟨z,z,z,z,trivial⟩,H⟩
 rintro t w ⟨k21,l1,v1,t1,hk1,E,rfl,H⟩
 unfold bg.j0 at E
 refine rg (ye (D8 OT H (fun b1 w H=>nl (ae (rg (vm v1 (vr (aY na (ao (H.Gt 4 z)) z) (vm (ii 0) (nl (aG ?_))))))))))
 refine bx (fun kk t w=>∃(l2:List Int)(l3:ByteArray)(x1 x2 x3 x4 x6 x7:Int)(m1:DS)(v3:Value)(t2:Fr),kk≤k21∧bg.l0 kk l1 l2 l3 x1 x2 x3 x4 x6 x7=some r∧t=aU t2 [(2,.string kB),(4,.map (some b4)),(6,pt b1),(54,v1),(55,ii (l1.length:Int)),(56,ii x7),(1000000,undef)]∧St (Rs.env).fp w0 w [.gd b2 m1 l2,.lv,.blk b3 #[pt b2,ii x1,ii x2,ii x3,ii x4,ii x6,sn,sn] 62,.mf b4 [(.string dJ,.func (.func 32) #[pt b3] #[]),(.string dK,.func (.func 33) #[pt b3] #[]),(.string dT,.func (.func 34) #[pt b3] #[]),(.string dU,.func (.func 35) #[pt b3] #[]),(.string dV,.func (.func 36) #[pt b3] #[]),(.string dW,.func (.func 37) #[pt b3] #[]),(.string dS,.func (.func 38) #[pt b3] #[]),(.string ez,.func (.func 39) #[pt b3] #[]),(.string eA,.func (.func 40) #[pt b3] #[]),(.string eB,.func (.func 41) #[pt b3] #[])],.own .str 9 v1 l1,.df b1 v3 (sb l3)]) k21 ?_ ?_
 ·exact⟨_,_,_,_,_,_,_,_,_,_,_,aI _,E,aD ⟨z,z,z,z,z,z,z,trivial⟩,H⟩
 rintro kk t w ⟨l2,l3,x1,x2,x3,x4,x6,x7,m1,v3,t2,hk2,E,rfl,H⟩
 obtain⟨k1,rfl⟩|rfl:=ks kk
 rotate_left
 ·cases E
 rw[bg.l0]at E
 refine rg (vr (aZ z z) (nl (ae ?_)))
 refine aE E z (fun c2 E=>?_) (fun c2 E=>?_)
 ·refine aA (ab (ae (aG (rg ?_))))
  obtain⟨⟨g7,g8⟩,E⟩:=ar E
  refine vr (bo ig (ao (H.Gt 4 z)) z z g7 g8) (vr (lO (e:=.str) (j:=0) qi (ao (H.Gt 4 z)) (ga ByteArray.empty g7 g8) z z) (va (.string (at_ ByteArray.empty l1 x7)) (nl (rg (vm (.string (at_ ByteArray.empty l1 x7)) ?_)))))
  obtain⟨x8,E1,E⟩:=ay E
  refine ye (au CA z ((strings_Split.calls (H.Gt 1 z) E1).mono ?_))
  rintro _ w ⟨v4,rfl,K⟩
  have H:=H.aV 1 z K
  refine⟨_,z,va v4 (nl (rg (va (.string cO) (nl (ae (rg (vm (.map (some b4)) (vm v4 ?_))))))))⟩
  obtain⟨⟨g9,g10⟩,E⟩:=ar E
  refine vr (bo ig (ao (H.Gt 6 z)) z z g9 g10) (vr (lO (e:=.str) (j:=0) qi (ao (H.Gt 6 z)) (ga ByteArray.empty g9 g10) z z) ?_)
  rcases bR (decide (at_ ByteArray.empty x8 0=dJ))with c3|c3
  ·have E:=iT c3 E
   refine vr (ou Tryz.underlying9 Tryz.underlying64 oy (H.Gt 3 z) z z z (by simp only[List.nil_append,List.cons_append,kt,c3,cond_true,cond_false])) (vr (sg (.func (.func 32) #[pt b3] #[]) z) (nl (rg (vr (mv (.func (.func 32) #[pt b3] #[]) z) (vr (qh Tryz.underlying63 z z z) (nl (cl z (aH (vr (mv (.func (.func 32) #[pt b3] #[]) z) (vr (mv v4 z) ?_))))))))))
   obtain⟨⟨g11,g12⟩,E⟩:=ar E
   have p1:(1:Int).toNat≤x8.length:=by omega
   have p2:x8.length≤x8.length:=by omega
   refine vr (iW ig (ao (H.Gt 6 z)) z z g11 g12) ?_
   refine ye (fZ (fun v w=>∃(k2:Nat)(x9 x10 x11:Int)(x12:ByteArray),k2≤k1∧bg.j1 (bg.l0 k2) k2 l1 l2 l3 x4 x6 x7 x9 x10 x11 x12=some r∧v= .string x12∧St (Rs.env).fp w0 w [.gd b2 m1 l2,.lv,.blk b3 #[pt b2,ii x9,ii x10,ii x11,ii x4,ii x6,sn,sn] 62,.mf b4 [(.string dJ,.func (.func 32) #[pt b3] #[]),(.string dK,.func (.func 33) #[pt b3] #[]),(.string dT,.func (.func 34) #[pt b3] #[]),(.string dU,.func (.func 35) #[pt b3] #[]),(.string dV,.func (.func 36) #[pt b3] #[]),(.string dW,.func (.func 37) #[pt b3] #[]),(.string dS,.func (.func 38) #[pt b3] #[]),(.string ez,.func (.func 39) #[pt b3] #[]),(.string eA,.func (.func 40) #[pt b3] #[]),(.string eB,.func (.func 41) #[pt b3] #[])],.own .str 9 v1 l1,.df b1 v3 (sb l3),.own .str 9 v4 x8]) ?_ ?_)
   ·refine(qw 41 [pt b3,bz v4 ((1:Int).toNat) x8.length 1] z Od Tryz.func32 z z z z (rg (va (.string kB) (nl (rg (vm (bz v4 ((1:Int).toNat) x8.length 1) ?_))))))
    obtain⟨x13,E2,E⟩:=ay E
    refine ye (au xc z ((fR.calls (H.Gt 1 z) (H.cb 6 1 z z z (Rd.bz (ao (H.Gt 6 z)) p1 p2)) E2).mono ?_))
    rintro _ w ⟨v5,rfl,K⟩
    have H:=H.aV 1 z K
    refine⟨_,z,vr cz (vr (aX z z) (vr (aX z z) (va v5 (va (.bool x13.2) (nl (ae (rg (vm (.bool x13.2) (vr (cp z) (vm (.bool (!x13.2)) ?_))))))))))⟩
    rcases bR (!x13.2)with c4|c4
    ·have E:=iT c4 E
     refine ow c4 z (ow c4 z (ow c4 z (vr (pT (.bool true) z z c4) (nl (cl z (rg (va (.string cO) (nl (aj ?_)))))))))
     exact(aL ⟨.inl z,.string cO,tk0 z ⟨ba z (ad ai) z,k1,_,_,_,_,aI _,E,z,H.ag [0,1,2,3,4,5,6] z z⟩⟩)
    ·have E:=iF c4 E
     refine oo c4 z (mv v5 z) (oo c4 z (aY gK (ao (H.Gt 7 z)) z) (oo c4 z (cx z z) (vr (pF (.bool (!decide ((x13.1.length:Int)=3))) z z c4) (nl ?_))))
     refine aE E z (fun c5 E=>?_) (fun c5 E=>?_)
     ·refine rg (va (.string cO) (nl (aj ?_)))
      exact(aL ⟨.inl z,.string cO,tk0 z ⟨ba z (ad ai) z,k1,_,_,_,_,aI _,E,z,H.ag [0,1,2,3,4,5,6] z z⟩⟩)
     ·refine aA (ab (ae (cd (ds:=[]) bZ H z z ?_)))
      have H:=H.drew
      refine wm 0 z H v5 ?_
      obtain⟨⟨g13,g14⟩,E⟩:=ar E
      refine wz 1 z H (fun w H=>bo gl (ao (H.Gt 7 z)) z z g13 g14) (wz 2 z H (fun w H=>bq bf (ao (H.Gt 7 z)) g13 g14 z) (wm 3 z H v5 ?_))
      obtain⟨⟨g15,g16⟩,E⟩:=ar E
      refine wz 4 z H (fun w H=>bo gl (ao (H.Gt 7 z)) z z g15 g16) (wz 5 z H (fun w H=>bq bf (ao (H.Gt 7 z)) g15 g16 z) (wm 6 z H v5 ?_))
      obtain⟨⟨g17,g18⟩,E⟩:=ar E
      refine wz 7 z H (fun w H=>bo gl (ao (H.Gt 7 z)) z z g17 g18) (wz 8 z H (fun w H=>bq bf (ao (H.Gt 7 z)) g17 g18 z) (wg 9 z H (cf (cs:=[ii (at_ 0 x13.1 0),ii (at_ 0 x13.1 1),ii (at_ 0 x13.1 2)]) xb z) (wo 10 z (cr rU H (fun b5 w H=>⟨fun _=>H.ag [0,1,2,3,4,5,6,7] z z,wo 11 z (cy qj H 8 z z z z z z (fun w H=>⟨fun _=>H.ag [0,1,2,3,4,5,6,7] z z,wd (ab (ae (rg (vr (bp (l:=[ii (at_ 0 x13.1 0),ii (at_ 0 x13.1 1),ii (at_ 0 x13.1 2)]) cv (H.Gt 8 z) z z z) ?_))))⟩))⟩)))))
      obtain⟨x14,E3,E⟩:=ay E
      refine ye (au On z ((dh.calls E3).mono ?_))
      rintro _ w ⟨rfl,K⟩
      have H:=H.app K
      refine⟨_,z,?_⟩
      have H:St (Rs.env).fp w0 _ [.gd b2 m1 l2,.lv,.blk b3 #[pt b2,ii x1,ii x2,ii x3,ii x4,ii x6,sn,sn] 62,.mf b4 [(.string dJ,.func (.func 32) #[pt b3] #[]),(.string dK,.func (.func 33) #[pt b3] #[]),(.string dT,.func (.func 34) #[pt b3] #[]),(.string dU,.func (.func 35) #[pt b3] #[]),(.string dV,.func (.func 36) #[pt b3] #[]),(.string dW,.func (.func 37) #[pt b3] #[]),(.string dS,.func (.func 38) #[pt b3] #[]),(.string ez,.func (.func 39) #[pt b3] #[]),(.string eA,.func (.func 40) #[pt b3] #[]),(.string eB,.func (.func 41) #[pt b3] #[])],.own .str 9 v1 l1,.df b1 v3 (sb l3),.own .str 9 v4 x8,.own (.int .i64) 3 v5 x13.1,.blk b5 #[ii (at_ 0 x13.1 0),ii (at_ 0 x13.1 1),ii (at_ 0 x13.1 2)] 24]:=H
      refine va (.int .u16 x14) (nl (rg (vm (.int .u16 x14) (vr (cx z z) (nl ?_)))))
      refine aE E z (fun c6 E=>?_) (fun c6 E=>?_)
      ·refine rg (vm (.int .u16 x14) ?_)
       obtain⟨x15,E4,E⟩:=ay E
       refine ye (au rS z ((jT.calls (H.Gt 1 z) E4).mono ?_))
       rintro _ w ⟨rfl,K⟩
       have H:=H.aV 1 z K
       refine⟨_,z,va (.string x15) (nl (aj ?_))⟩
       exact(aL ⟨.inl z,.string x15,tk0 z ⟨ba z (ad ai) z,k1,_,_,_,_,aI _,E,z,H.ag [0,1,2,3,4,5,6] z z⟩⟩)
      ·refine aA (ab (rg (vm (pt b3) (vr (bp (l:=[ii (at_ 0 x13.1 0),ii (at_ 0 x13.1 1),ii (at_ 0 x13.1 2)]) cv (H.Gt 8 z) z z z) (vr (bw z) (vr (az uf z) (s_ (cy qj H 2 z z z z z z (fun w H=>nl (rg (va (.string mZ) (nl (aj ?_)))))))))))))
       exact⟨.inl z,.string mZ,tk0 z ⟨ba z (ad ai) z,k1,_,_,_,_,aI _,E,z,H.ag [0,1,2,3,4,5,6] z z⟩⟩
   rintro _ w ⟨k2,x9,x10,x11,x12,hk3,E,hv_,H⟩
   have hv_:=hv_.symm
   subst hv_
   unfold bg.j1 at E
   refine va (.string x12) (nl (aH (vm (.string x12) ?_)))
   obtain⟨g19,E⟩:=ar E
   refine vr (cJ z z g19) ?_
   obtain⟨g20,E⟩:=ar E
   refine ye (ma H 5 z ot z z g20 (fun v6 w H=>aK (aR (ab (aH (vr (aO z z) (vm (ii (i64.wrap (x7+1))) (aK ?_))))))))
   exact⟨k2,by omega,_,_,_,_,_,_,_,_,_,_,_,by omega,E,aD ⟨z,z,z,z,z,z,z,trivial⟩,H.ag [0,1,2,3,4,5] z z⟩
  ·have E:=iF c3 E
   rcases bR (decide (at_ ByteArray.empty x8 0=dK))with c7|c7
   ·have E:=iT c7 E
    refine vr (ou Tryz.underlying9 Tryz.underlying64 oy (H.Gt 3 z) z z z (by simp only[List.nil_append,List.cons_append,kt,c3,c7,cond_true,cond_false])) (vr (sg (.func (.func 33) #[pt b3] #[]) z) (nl (rg (vr (mv (.func (.func 33) #[pt b3] #[]) z) (vr (qh Tryz.underlying63 z z z) (nl (cl z (aH (vr (mv (.func (.func 33) #[pt b3] #[]) z) (vr (mv v4 z) ?_))))))))))
    obtain⟨⟨g21,g22⟩,E⟩:=ar E
    have p3:(1:Int).toNat≤x8.length:=by omega
    have p4:x8.length≤x8.length:=by omega
    refine vr (iW ig (ao (H.Gt 6 z)) z z g21 g22) ?_
    refine ye (fZ (fun v w=>∃(k3:Nat)(x16 x17:Int)(x18:ByteArray),k3≤k1∧bg.j2 (bg.l0 k3) k3 l1 l2 l3 x1 x2 x3 x7 x16 x17 x18=some r∧v= .string x18∧St (Rs.env).fp w0 w [.gd b2 m1 l2,.lv,.blk b3 #[pt b2,ii x1,ii x2,ii x3,ii x16,ii x17,sn,sn] 62,.mf b4 [(.string dJ,.func (.func 32) #[pt b3] #[]),(.string dK,.func (.func 33) #[pt b3] #[]),(.string dT,.func (.func 34) #[pt b3] #[]),(.string dU,.func (.func 35) #[pt b3] #[]),(.string dV,.func (.func 36) #[pt b3] #[]),(.string dW,.func (.func 37) #[pt b3] #[]),(.string dS,.func (.func 38) #[pt b3] #[]),(.string ez,.func (.func 39) #[pt b3] #[]),(.string eA,.func (.func 40) #[pt b3] #[]),(.string eB,.func (.func 41) #[pt b3] #[])],.own .str 9 v1 l1,.df b1 v3 (sb l3),.own .str 9 v4 x8]) ?_ ?_)
    ·refine(qw 38 [pt b3,bz v4 ((1:Int).toNat) x8.length 1] z Oe Tryz.func33 z z z z (rg (va (.string kB) (nl (rg (vm (bz v4 ((1:Int).toNat) x8.length 1) ?_))))))
     obtain⟨x19,E5,E⟩:=ay E
     refine ye (au xc z ((fR.calls (H.Gt 1 z) (H.cb 6 1 z z z (Rd.bz (ao (H.Gt 6 z)) p3 p4)) E5).mono ?_))
     rintro _ w ⟨v8,rfl,K⟩
     have H:=H.aV 1 z K
     refine⟨_,z,vr cz (vr (aX z z) (vr (aX z z) (va v8 (va (.bool x19.2) (nl (ae (rg (vm (.bool x19.2) (vr (cp z) (vm (.bool (!x19.2)) ?_))))))))))⟩
     rcases bR (!x19.2)with c8|c8
     ·have E:=iT c8 E
      refine ow c8 z (ow c8 z (ow c8 z (vr (pT (.bool true) z z c8) (nl (cl z (rg (va (.string cO) (nl (aj ?_)))))))))
      exact(aL ⟨.inl z,.string cO,tk0 z ⟨ba z (ad ai) z,k1,_,_,_,aI _,E,z,H.ag [0,1,2,3,4,5,6] z z⟩⟩)
     ·have E:=iF c8 E
      refine oo c8 z (mv v8 z) (oo c8 z (aY gK (ao (H.Gt 7 z)) z) (oo c8 z (cx z z) (vr (pF (.bool (!decide ((x19.1.length:Int)=2))) z z c8) (nl ?_))))
      refine aE E z (fun c9 E=>?_) (fun c9 E=>?_)
      ·refine rg (va (.string cO) (nl (aj ?_)))
       exact(aL ⟨.inl z,.string cO,tk0 z ⟨ba z (ad ai) z,k1,_,_,_,aI _,E,z,H.ag [0,1,2,3,4,5,6] z z⟩⟩)
      ·refine aA (ab (ae (cd (ds:=[]) bZ H z z ?_)))
       have H:=H.drew
       refine wm 0 z H v8 ?_
       obtain⟨⟨g25,g26⟩,E⟩:=ar E
       refine wz 1 z H (fun w H=>bo gl (ao (H.Gt 7 z)) z z g25 g26) (wz 2 z H (fun w H=>bq bf (ao (H.Gt 7 z)) g25 g26 z) (wm 3 z H v8 ?_))
       obtain⟨⟨g31,g32⟩,E⟩:=ar E
       refine wz 4 z H (fun w H=>bo gl (ao (H.Gt 7 z)) z z g31 g32) (wz 5 z H (fun w H=>bq bf (ao (H.Gt 7 z)) g31 g32 z) (wg 6 z H (cf (cs:=[ii (at_ 0 x19.1 0),ii (at_ 0 x19.1 1)]) qT z) (wo 7 z (cr q9 H (fun b6 w H=>⟨fun _=>H.ag [0,1,2,3,4,5,6,7] z z,wo 8 z (cy lz H 8 z z z z z z (fun w H=>⟨fun _=>H.ag [0,1,2,3,4,5,6,7] z z,wd (ab (ae (rg (vr (bp (l:=[ii (at_ 0 x19.1 0),ii (at_ 0 x19.1 1)]) gH (H.Gt 8 z) z z z) ?_))))⟩))⟩)))))
       obtain⟨x20,E7,E⟩:=ay E
       refine ye (au Oo z ((jS.calls E7).mono ?_))
       rintro _ w ⟨rfl,K⟩
       have H:=H.app K
       refine⟨_,z,?_⟩
       have H:St (Rs.env).fp w0 _ [.gd b2 m1 l2,.lv,.blk b3 #[pt b2,ii x1,ii x2,ii x3,ii x4,ii x6,sn,sn] 62,.mf b4 [(.string dJ,.func (.func 32) #[pt b3] #[]),(.string dK,.func (.func 33) #[pt b3] #[]),(.string dT,.func (.func 34) #[pt b3] #[]),(.string dU,.func (.func 35) #[pt b3] #[]),(.string dV,.func (.func 36) #[pt b3] #[]),(.string dW,.func (.func 37) #[pt b3] #[]),(.string dS,.func (.func 38) #[pt b3] #[]),(.string ez,.func (.func 39) #[pt b3] #[]),(.string eA,.func (.func 40) #[pt b3] #[]),(.string eB,.func (.func 41) #[pt b3] #[])],.own .str 9 v1 l1,.df b1 v3 (sb l3),.own .str 9 v4 x8,.own (.int .i64) 3 v8 x19.1,.blk b6 #[ii (at_ 0 x19.1 0),ii (at_ 0 x19.1 1)] 60]:=H
       refine va (.int .u16 x20) (nl (rg (vm (.int .u16 x20) (vr (cx z z) (nl ?_)))))
       refine aE E z (fun c10 E=>?_) (fun c10 E=>?_)
       ·refine rg (vm (.int .u16 x20) ?_)
        obtain⟨x21,E8,E⟩:=ay E
        refine ye (au rS z ((jT.calls (H.Gt 1 z) E8).mono ?_))
        rintro _ w ⟨rfl,K⟩
        have H:=H.aV 1 z K
        refine⟨_,z,va (.string x21) (nl (aj ?_))⟩
        exact(aL ⟨.inl z,.string x21,tk0 z ⟨ba z (ad ai) z,k1,_,_,_,aI _,E,z,H.ag [0,1,2,3,4,5,6] z z⟩⟩)
       ·refine aA (ab (rg (vm (pt b3) (vr (bp (l:=[ii (at_ 0 x19.1 0),ii (at_ 0 x19.1 1)]) gH (H.Gt 8 z) z z z) (vr (bw z) (vr (az xg z) (s_ (cy lz H 2 z z z z z z (fun w H=>nl (rg (va (.string mZ) (nl (aj ?_)))))))))))))
        exact⟨.inl z,.string mZ,tk0 z ⟨ba z (ad ai) z,k1,_,_,_,aI _,E,z,H.ag [0,1,2,3,4,5,6] z z⟩⟩
    rintro _ w ⟨k3,x16,x17,x18,hk4,E,hv_,H⟩
    have hv_:=hv_.symm
    subst hv_
    unfold bg.j2 at E
    refine va (.string x18) (nl (aH (vm (.string x18) ?_)))
    obtain⟨g33,E⟩:=ar E
    refine vr (cJ z z g33) ?_
    obtain⟨g34,E⟩:=ar E
    refine ye (ma H 5 z ot z z g34 (fun v9 w H=>aK (aR (ab (aH (vr (aO z z) (vm (ii (i64.wrap (x7+1))) (aK ?_))))))))
    exact⟨k3,by omega,_,_,_,_,_,_,_,_,_,_,_,by omega,E,aD ⟨z,z,z,z,z,z,z,trivial⟩,H.ag [0,1,2,3,4,5] z z⟩
   ·have E:=iF c7 E
    rcases bR (decide (at_ ByteArray.empty x8 0=dT))with c11|c11
    ·have E:=iT c11 E
     refine vr (ou Tryz.underlying9 Tryz.underlying64 oy (H.Gt 3 z) z z z (by simp only[List.nil_append,List.cons_append,kt,c3,c7,c11,cond_true,cond_false])) (vr (sg (.func (.func 34) #[pt b3] #[]) z) (nl (rg (vr (mv (.func (.func 34) #[pt b3] #[]) z) (vr (qh Tryz.underlying63 z z z) (nl (cl z (aH (vr (mv (.func (.func 34) #[pt b3] #[]) z) (vr (mv v4 z) ?_))))))))))
     obtain⟨⟨g35,g36⟩,E⟩:=ar E
     have p5:(1:Int).toNat≤x8.length:=by omega
     have p6:x8.length≤x8.length:=by omega
     refine vr (iW ig (ao (H.Gt 6 z)) z z g35 g36) ?_
     refine ye (fZ (fun v w=>∃(k4:Nat)(l4:List Int)(x22:ByteArray)(m2:DS),k4≤k1∧bg.j3 (bg.l0 k4) k4 l1 l3 x1 x2 x3 x4 x6 x7 l4 x22=some r∧v= .string x22∧St (Rs.env).fp w0 w [.gd b2 m2 l4,.lv,.blk b3 #[pt b2,ii x1,ii x2,ii x3,ii x4,ii x6,sn,sn] 62,.mf b4 [(.string dJ,.func (.func 32) #[pt b3] #[]),(.string dK,.func (.func 33) #[pt b3] #[]),(.string dT,.func (.func 34) #[pt b3] #[]),(.string dU,.func (.func 35) #[pt b3] #[]),(.string dV,.func (.func 36) #[pt b3] #[]),(.string dW,.func (.func 37) #[pt b3] #[]),(.string dS,.func (.func 38) #[pt b3] #[]),(.string ez,.func (.func 39) #[pt b3] #[]),(.string eA,.func (.func 40) #[pt b3] #[]),(.string eB,.func (.func 41) #[pt b3] #[])],.own .str 9 v1 l1,.df b1 v3 (sb l3),.own .str 9 v4 x8]) ?_ ?_)
     ·refine(qw 44 [pt b3,bz v4 ((1:Int).toNat) x8.length 1] z Og Tryz.func34 z z z z (rg (va (.string kB) (nl (ae (rg (vm (bz v4 ((1:Int).toNat) x8.length 1) (vr (aY na (Rd.bz (ao (H.Gt 6 z)) p5 p6) z) (vr (cx z z) (nl ?_))))))))))
      refine aE E z (fun c12 E=>?_) (fun c12 E=>?_)
      ·refine rg (va (.string cO) (nl (aj ?_)))
       exact(aL ⟨.inl z,.string cO,tk0 z ⟨ba z (ad ai) z,k1,_,_,_,aI _,E,z,H⟩⟩)
      ·refine aA (ab (rg (vm (bz v4 ((1:Int).toNat) x8.length 1) ?_)))
       obtain⟨⟨g37,g38⟩,E⟩:=ar E
       refine vr (bo ig (Rd.bz (ao (H.Gt 6 z)) p5 p6) z z g37 g38) (vr (lO (e:=.str) (j:=0) qi (Rd.bz (ao (H.Gt 6 z)) p5 p6) (ga ByteArray.empty g37 g38) z z) ?_)
       obtain⟨x23,E9,E⟩:=ay E
       refine ye (au xd z ((fx.calls E9).mono ?_))
       rintro _ w ⟨v10,rfl,K⟩
       have H:=H.app K
       refine⟨_,z,vr cz (vr (aX z z) (vr (aX z z) (va v10 (va (.bool x23.2) (nl (ae (rg (vm (.bool x23.2) (vr (cp z) (nl ?_))))))))))⟩
       refine aE E z (fun c13 E=>?_) (fun c13 E=>?_)
       ·refine rg (va (.string cO) (nl (aj ?_)))
        exact(aL ⟨.inl z,.string cO,tk0 z ⟨ba z (ad ai) z,k1,_,_,_,aI _,E,z,H.ag [0,1,2,3,4,5,6] z z⟩⟩)
       ·refine aA (ab (ae (eZ (ds:=[]) (fun w=>∃(d':DS)(n':List Int),St (Rs.env).fp w0 w [.gd b2 d' n',.lv,.blk b3 #[pt b2,ii x1,ii x2,ii x3,ii x4,ii x6,sn,sn] 62,.mf b4 [(.string dJ,.func (.func 32) #[pt b3] #[]),(.string dK,.func (.func 33) #[pt b3] #[]),(.string dT,.func (.func 34) #[pt b3] #[]),(.string dU,.func (.func 35) #[pt b3] #[]),(.string dV,.func (.func 36) #[pt b3] #[]),(.string dW,.func (.func 37) #[pt b3] #[]),(.string dS,.func (.func 38) #[pt b3] #[]),(.string ez,.func (.func 39) #[pt b3] #[]),(.string eA,.func (.func 40) #[pt b3] #[]),(.string eB,.func (.func 41) #[pt b3] #[])],.own .str 9 v1 l1,.df b1 v3 (sb l3),.own .str 9 v4 x8,.own (.int .u8) 5 v10 x23.1]) bZ H z z ?_)))
        have H:=H.drew
        refine wm 0 z ⟨_,_,H⟩ (pt b3) (wg 1 z ⟨_,_,H⟩ (bw z) (wg 2 z ⟨_,_,H⟩ (az xf z) (wz 3 z ⟨_,_,H⟩ (fun w ⟨d',n',H⟩=>av xm z (ak (H.Gt 2 z) z)) (wm 4 z ⟨_,_,H⟩ (pt b3) (wg 5 z ⟨_,_,H⟩ (bw z) (wg 6 z ⟨_,_,H⟩ (az uf z) (wz 7 z ⟨_,_,H⟩ (fun w ⟨d',n',H⟩=>bp (l:=[ii x1,ii x2,ii x3]) cv (H.Gt 2 z) z z z) (wm 8 z ⟨_,_,H⟩ (pt b3) (wg 9 z ⟨_,_,H⟩ (bw z) (wg 10 z ⟨_,_,H⟩ (az xg z) (wz 11 z ⟨_,_,H⟩ (fun w ⟨d',n',H⟩=>bp (l:=[ii x4,ii x6]) gH (H.Gt 2 z) z z z) (wm 12 z ⟨_,_,H⟩ v10 ?_))))))))))))
        obtain⟨x24,E10,E⟩:=ay E
        refine wo 13 z (au Oq z ((qO.calls (H.Gt 0 z) (H.cb 7 0 z z z (ao (H.Gt 7 z))) E10).mono ?_))
        rintro _ w ⟨m3,v11,rfl,K⟩
        have H:=H.aV 0 z K
        refine⟨_,z,⟨fun _=>⟨_,_,H.ag [0,1,2,3,4,5,6,7] z z⟩,wg 14 z ⟨_,_,H.ag [0,1,2,3,4,5,6,7] z z⟩ cz (wg 15 z ⟨_,_,H.ag [0,1,2,3,4,5,6,7] z z⟩ (aX z z) (wg 16 z ⟨_,_,H.ag [0,1,2,3,4,5,6,7] z z⟩ (aX z z) (wy 17 z (⟨_,_,H.ag [0,1,2,3,4,5,6,7] z z⟩) (sg v11 z) (wg 18 z ⟨_,_,H.ag [0,1,2,3,4,5,6,7] z z⟩ (sg (.int .u16 x24.1.2) z) (wd (ab (ae (rg (vm (.int .u16 x24.1.2) (vr (cx z z) (nl ?_)))))))))))⟩⟩
        refine aE E z (fun c14 E=>?_) (fun c14 E=>?_)
        ·refine rg (vm (.int .u16 x24.1.2) ?_)
         obtain⟨x25,E11,E⟩:=ay E
         refine ye (au rS z ((jT.calls (H.Gt 1 z) E11).mono ?_))
         rintro _ w ⟨rfl,K⟩
         have H:=H.aV 1 z K
         refine⟨_,z,va (.string x25) (nl (aj ?_))⟩
         exact(aL ⟨.inl z,.string x25,tk0 z ⟨ba z (ad ai) z,k1,_,_,_,aI _,E,z,H.ag [0,1,2,3,4,5,6] z z⟩⟩)
        ·refine aA (ab (rg (vm v11 ?_)))
         obtain⟨x26,E12,E⟩:=ay E
         refine ye (au qg z ((eM.calls (my (H.Gt 0 z)) (qd (H.cb 8 0 z z z (ao (H.Gt 8 z)))) E12).mono ?_))
         rintro _ w ⟨rfl,K⟩
         have H:=H.oU 0 z K
         refine⟨_,z,va (.string x26) (nl (aj ?_))⟩
         exact⟨.inl z,.string x26,tk0 z ⟨ba z (ad ai) z,k1,_,_,_,aI _,E,z,H.ag [0,1,2,3,4,5,6] z z⟩⟩
     rintro _ w ⟨k4,l4,x22,m2,hk5,E,hv_,H⟩
     have hv_:=hv_.symm
     subst hv_
     unfold bg.j3 at E
     refine va (.string x22) (nl (aH (vm (.string x22) ?_)))
     obtain⟨g39,E⟩:=ar E
     refine vr (cJ z z g39) ?_
     obtain⟨g40,E⟩:=ar E
     refine ye (ma H 5 z ot z z g40 (fun v12 w H=>aK (aR (ab (aH (vr (aO z z) (vm (ii (i64.wrap (x7+1))) (aK ?_))))))))
     exact⟨k4,by omega,_,_,_,_,_,_,_,_,_,_,_,by omega,E,aD ⟨z,z,z,z,z,z,z,trivial⟩,H.ag [0,1,2,3,4,5] z z⟩
    ·have E:=iF c11 E
     rcases bR (decide (at_ ByteArray.empty x8 0=dU))with c15|c15
     ·have E:=iT c15 E
      refine vr (ou Tryz.underlying9 Tryz.underlying64 oy (H.Gt 3 z) z z z (by simp only[List.nil_append,List.cons_append,kt,c3,c7,c11,c15,cond_true,cond_false])) (vr (sg (.func (.func 35) #[pt b3] #[]) z) (nl (rg (vr (mv (.func (.func 35) #[pt b3] #[]) z) (vr (qh Tryz.underlying63 z z z) (nl (cl z (aH (vr (mv (.func (.func 35) #[pt b3] #[]) z) (vr (mv v4 z) ?_))))))))))
      obtain⟨⟨g41,g42⟩,E⟩:=ar E
      have p7:(1:Int).toNat≤x8.length:=by omega
      have p8:x8.length≤x8.length:=by omega
      refine vr (iW ig (ao (H.Gt 6 z)) z z g41 g42) ?_
      refine ye (fZ (fun v w=>∃(k5:Nat)(l5:List Int)(x27:ByteArray)(m4:DS),k5≤k1∧bg.j4 (bg.l0 k5) k5 l1 l3 x1 x2 x3 x4 x6 x7 l5 x27=some r∧v= .string x27∧St (Rs.env).fp w0 w [.gd b2 m4 l5,.lv,.blk b3 #[pt b2,ii x1,ii x2,ii x3,ii x4,ii x6,sn,sn] 62,.mf b4 [(.string dJ,.func (.func 32) #[pt b3] #[]),(.string dK,.func (.func 33) #[pt b3] #[]),(.string dT,.func (.func 34) #[pt b3] #[]),(.string dU,.func (.func 35) #[pt b3] #[]),(.string dV,.func (.func 36) #[pt b3] #[]),(.string dW,.func (.func 37) #[pt b3] #[]),(.string dS,.func (.func 38) #[pt b3] #[]),(.string ez,.func (.func 39) #[pt b3] #[]),(.string eA,.func (.func 40) #[pt b3] #[]),(.string eB,.func (.func 41) #[pt b3] #[])],.own .str 9 v1 l1,.df b1 v3 (sb l3),.own .str 9 v4 x8]) ?_ ?_)
      ·refine(qw 66 [pt b3,bz v4 ((1:Int).toNat) x8.length 1] z Oh Tryz.func35 z z z z (rg (va (.string kB) (nl (ae (rg (vm (bz v4 ((1:Int).toNat) x8.length 1) (vr (aY na (Rd.bz (ao (H.Gt 6 z)) p7 p8) z) (vr (cg z z) (nl ?_))))))))))
       refine aE E z (fun c16 E=>?_) (fun c16 E=>?_)
       ·refine rg (va (.string cO) (nl (aj ?_)))
        exact(aL ⟨.inl z,.string cO,tk0 z ⟨ba z (ad ai) z,k1,_,_,_,aI _,E,z,H⟩⟩)
       ·refine aA (ab (rg (vm (bz v4 ((1:Int).toNat) x8.length 1) ?_)))
        obtain⟨⟨g43,g44⟩,E⟩:=ar E
        refine vr (bo ig (Rd.bz (ao (H.Gt 6 z)) p7 p8) z z g43 g44) (vr (lO (e:=.str) (j:=0) qi (Rd.bz (ao (H.Gt 6 z)) p7 p8) (ga ByteArray.empty g43 g44) z z) ?_)
        obtain⟨x28,E13,E⟩:=ay E
        refine ye (au xd z ((fx.calls E13).mono ?_))
        rintro _ w ⟨v13,rfl,K⟩
        have H:=H.app K
        refine⟨_,z,vr cz (vr (aX z z) (vr (aX z z) (va v13 (va (.bool x28.2) (nl (rg (vm (bz v4 ((1:Int).toNat) x8.length 1) ?_)))))))⟩
        obtain⟨⟨g45,g46⟩,E⟩:=ar E
        have p9:(1:Int).toNat≤((x8.take x8.length).drop ((1:Int).toNat)).length:=by omega
        have p10:((x8.take x8.length).drop ((1:Int).toNat)).length≤((x8.take x8.length).drop ((1:Int).toNat)).length:=by omega
        refine vr (iW ig (Rd.bz (ao (H.Gt 6 z)) p7 p8) z z g45 g46) ?_
        obtain⟨x29,E14,E⟩:=ay E
        refine ye (au xc z ((fR.calls (H.Gt 1 z) (H.cb 6 1 z z z (Rd.bz (Rd.bz (ao (H.Gt 6 z)) p7 p8) p9 p10)) E14).mono ?_))
        rintro _ w ⟨v14,rfl,K⟩
        have H:=H.aV 1 z K
        refine⟨_,z,vr cz (vr (aX z z) (vr (aX z z) (va v14 (va (.bool x29.2) (nl (ae (rg (vm (.bool x28.2) (vr (cp z) (vm (.bool (!x28.2)) ?_))))))))))⟩
        rcases bR (!x28.2)with c17|c17
        ·have E:=iT c17 E
         refine ow c17 z (ow c17 z (vr (pT (.bool true) z z c17) (nl (cl z (rg (va (.string cO) (nl (aj ?_))))))))
         exact(aL ⟨.inl z,.string cO,tk0 z ⟨ba z (ad ai) z,k1,_,_,_,aI _,E,z,H.ag [0,1,2,3,4,5,6] z z⟩⟩)
        ·have E:=iF c17 E
         refine oo c17 z (mv (.bool x29.2) z) (oo c17 z (cp z) (vr (pF (.bool (!x29.2)) z z c17) (nl ?_)))
         refine aE E z (fun c18 E=>?_) (fun c18 E=>?_)
         ·refine rg (va (.string cO) (nl (aj ?_)))
          exact(aL ⟨.inl z,.string cO,tk0 z ⟨ba z (ad ai) z,k1,_,_,_,aI _,E,z,H.ag [0,1,2,3,4,5,6] z z⟩⟩)
         ·refine aA (ab (ae (eZ (ds:=[]) (fun w=>∃(d':DS)(n':List Int),St (Rs.env).fp w0 w [.gd b2 d' n',.lv,.blk b3 #[pt b2,ii x1,ii x2,ii x3,ii x4,ii x6,sn,sn] 62,.mf b4 [(.string dJ,.func (.func 32) #[pt b3] #[]),(.string dK,.func (.func 33) #[pt b3] #[]),(.string dT,.func (.func 34) #[pt b3] #[]),(.string dU,.func (.func 35) #[pt b3] #[]),(.string dV,.func (.func 36) #[pt b3] #[]),(.string dW,.func (.func 37) #[pt b3] #[]),(.string dS,.func (.func 38) #[pt b3] #[]),(.string ez,.func (.func 39) #[pt b3] #[]),(.string eA,.func (.func 40) #[pt b3] #[]),(.string eB,.func (.func 41) #[pt b3] #[])],.own .str 9 v1 l1,.df b1 v3 (sb l3),.own .str 9 v4 x8,.own (.int .u8) 5 v13 x28.1,.own (.int .i64) 3 v14 x29.1]) bZ H z z ?_)))
          have H:=H.drew
          refine wm 0 z ⟨_,_,H⟩ (pt b3) (wg 1 z ⟨_,_,H⟩ (bw z) (wg 2 z ⟨_,_,H⟩ (az xf z) (wz 3 z ⟨_,_,H⟩ (fun w ⟨d',n',H⟩=>av xm z (ak (H.Gt 2 z) z)) (wm 4 z ⟨_,_,H⟩ (pt b3) (wg 5 z ⟨_,_,H⟩ (bw z) (wg 6 z ⟨_,_,H⟩ (az uf z) (wz 7 z ⟨_,_,H⟩ (fun w ⟨d',n',H⟩=>bp (l:=[ii x1,ii x2,ii x3]) cv (H.Gt 2 z) z z z) (wm 8 z ⟨_,_,H⟩ (pt b3) (wg 9 z ⟨_,_,H⟩ (bw z) (wg 10 z ⟨_,_,H⟩ (az xg z) (wz 11 z ⟨_,_,H⟩ (fun w ⟨d',n',H⟩=>bp (l:=[ii x4,ii x6]) gH (H.Gt 2 z) z z z) (wm 12 z ⟨_,_,H⟩ v13 (wm 13 z ⟨_,_,H⟩ v14 ?_)))))))))))))
          obtain⟨x30,E15,E⟩:=ay E
          refine lZ (i:=14) (j:=18) (li:=tf 15 21) (lj:=#[true,true,true,true,true,true,true,true,true,true,true,true,true,true,false,false,false,false,true,false,false]) z z z z z z (by kernel_rfl) ?_ ?_
          ·refine(au CB z ((mi.calls (H.Gt 0 z) (H.cb 7 0 z z z (ao (H.Gt 7 z))) (H.cb 8 0 z z z (ao (H.Gt 8 z))) E15).mono ?_))
           rintro _ w ⟨m5,v15,v16,v17,rfl,K⟩
           have H:=H.aV 0 z K
           refine⟨_,z,⟨fun _=>⟨_,_,H.ag [0,1,2,3,4,5,6,7,8] z z⟩,wg 15 z (⟨_,_,H.ag [0,1,2,3,4,5,6,7,8] z z⟩) cz (wg 16 z (⟨_,_,H.ag [0,1,2,3,4,5,6,7,8] z z⟩) (aX z z) (wg 17 z (⟨_,_,H.ag [0,1,2,3,4,5,6,7,8] z z⟩) (aX z z) (wo 18 z (cr vB H (fun b7 w H=>⟨fun _=>⟨_,_,H.ag [0,1,2,3,4,5,6,7,8] z z⟩,?_⟩)))))⟩⟩
           have H:St (Rs.env).fp w0 _ [.gd b2 m5 x30.2,.lv,.blk b3 #[pt b2,ii x1,ii x2,ii x3,ii x4,ii x6,sn,sn] 62,.mf b4 [(.string dJ,.func (.func 32) #[pt b3] #[]),(.string dK,.func (.func 33) #[pt b3] #[]),(.string dT,.func (.func 34) #[pt b3] #[]),(.string dU,.func (.func 35) #[pt b3] #[]),(.string dV,.func (.func 36) #[pt b3] #[]),(.string dW,.func (.func 37) #[pt b3] #[]),(.string dS,.func (.func 38) #[pt b3] #[]),(.string ez,.func (.func 39) #[pt b3] #[]),(.string eA,.func (.func 40) #[pt b3] #[]),(.string eB,.func (.func 41) #[pt b3] #[])],.own .str 9 v1 l1,.df b1 v3 (sb l3),.own .str 9 v4 x8,.own (.int .u8) 5 v13 x28.1,.own (.int .i64) 3 v14 x29.1,.own (.int .u8) 5 v15 x30.1.1.1,.own (.int .u8) 5 v16 x30.1.1.2.1,.own (.int .i64) 3 v17 x30.1.1.2.2,.blk b7 #[sn,sn,sn] 33]:=H
           obtain⟨p11,n1,c19,rfl⟩:=bX (H.Gt 9 z)
           obtain⟨p12,n2,c20,rfl⟩:=bX (H.Gt 10 z)
           obtain⟨p13,n3,c21,rfl⟩:=bX (H.Gt 11 z)
           refine wo 19 z (cy sR H 12 z z z z z z (fun w H=>⟨fun _=>⟨_,_,H.ag [0,1,2,3,4,5,6,7,8] z z⟩,wg 20 z ⟨_,_,H.ag [0,1,2,3,4,5,6,7,8] z z⟩ (sg (.int .u16 x30.1.2) z) (wd (ab (ae (rg (vm (.int .u16 x30.1.2) (vr (cx z z) (nl ?_)))))))⟩))
           refine aE E z (fun c22 E=>?_) (fun c22 E=>?_)
           ·refine rg (vm (.int .u16 x30.1.2) ?_)
            obtain⟨x31,E16,E⟩:=ay E
            refine ye (au rS z ((jT.calls (H.Gt 1 z) E16).mono ?_))
            rintro _ w ⟨rfl,K⟩
            have H:=H.aV 1 z K
            refine⟨_,z,va (.string x31) (nl (aj ?_))⟩
            exact(aL ⟨.inl z,.string x31,tk0 z ⟨ba z (ad ai) z,k1,_,_,_,aI _,E,z,H.ag [0,1,2,3,4,5,6] z z⟩⟩)
           ·refine aA (ab (ae (cd (ds:=[]) bZ H z z ?_)))
            have H:=H.drew
            refine wg 0 z H (az CE z) (wz 1 z H (fun w H=>av bQ z (ak (H.Gt 12 z) z)) (wg 3 z H (az CD z) (wz 4 z H (fun w H=>av bQ z (ak (H.Gt 12 z) z)) (wg 6 z H (az CF z) (wz 7 z H (fun w H=>av eU z (ak (H.Gt 12 z) z)) ?_)))))
            obtain⟨x32,E17,E⟩:=ay E
            refine wo 2 z (au qg z ((eM.calls (my (H.Gt 0 z)) (qd (H.cb 10 0 z z z (ao (H.Gt 10 z)))) E17).mono ?_))
            rintro _ w ⟨rfl,K⟩
            have H:=H.oU 0 z K
            refine⟨_,z,⟨fun _=>H.ag [0,1,2,3,4,5,6,7,8,9,10,11,12] z z,?_⟩⟩
            obtain⟨x33,E18,E⟩:=ay E
            refine wo 5 z (au qg z ((eM.calls (my (H.Gt 0 z)) (qd (H.cb 9 0 z z z (ao (H.Gt 9 z)))) E18).mono ?_))
            rintro _ w ⟨rfl,K⟩
            have H:=H.oU 0 z K
            refine⟨_,z,⟨fun _=>H.ag [0,1,2,3,4,5,6,7,8,9,10,11,12] z z,?_⟩⟩
            obtain⟨x34,E19,E⟩:=ay E
            refine wo 8 z (au xe z ((bM.calls (H.Gt 1 z) (H.cb 11 1 z z z (ao (H.Gt 11 z))) E19).mono ?_))
            rintro _ w ⟨rfl,K⟩
            have H:=H.aV 1 z K
            refine⟨_,z,⟨fun _=>H.ag [0,1,2,3,4,5,6,7,8,9,10,11,12] z z,wo 9 z (cL (e:=.str) (l:=[x32,x33,x34]) ig H z (by decide) ⟨z,z,z,z,z,z,trivial⟩ (by decide) (fun v19 w H=>⟨fun _=>H.ag [0,1,2,3,4,5,6,7,8,9,10,11,12] z z,?_⟩))⟩⟩
            have H:St (Rs.env).fp w0 _ [.gd b2 m5 x30.2,.lv,.blk b3 #[pt b2,ii x1,ii x2,ii x3,ii x4,ii x6,sn,sn] 62,.mf b4 [(.string dJ,.func (.func 32) #[pt b3] #[]),(.string dK,.func (.func 33) #[pt b3] #[]),(.string dT,.func (.func 34) #[pt b3] #[]),(.string dU,.func (.func 35) #[pt b3] #[]),(.string dV,.func (.func 36) #[pt b3] #[]),(.string dW,.func (.func 37) #[pt b3] #[]),(.string dS,.func (.func 38) #[pt b3] #[]),(.string ez,.func (.func 39) #[pt b3] #[]),(.string eA,.func (.func 40) #[pt b3] #[]),(.string eB,.func (.func 41) #[pt b3] #[])],.own .str 9 v1 l1,.df b1 v3 (sb l3),.own .str 9 v4 x8,.own (.int .u8) 5 v13 x28.1,.own (.int .i64) 3 v14 x29.1,.own (.int .u8) 5 (.slice p11 n1 c19) x30.1.1.1,.own (.int .u8) 5 (.slice p12 n2 c20) x30.1.1.2.1,.own (.int .i64) 3 (.slice p13 n3 c21) x30.1.1.2.2,.blk b7 #[(.slice p11 n1 c19),(.slice p12 n2 c20),(.slice p13 n3 c21)] 33,.own .str 9 v19 ([x32,x33,x34])]:=H
            obtain⟨x35,E20,E⟩:=ay E
            refine wo 10 z (au CC z ((kV.calls (H.own 13 z (ao (H.Gt 13 z))) E20).mono ?_))
            rintro _ w ⟨rfl,K⟩
            have H:=H.app K
            refine⟨_,z,⟨fun _=>H.ag [0,1,2,3,4,5,6,7,8,9,10,11,12] z z,wg 11 z (H.ag [0,1,2,3,4,5,6,7,8,9,10,11,12] z z) (sg (.string x35) z) (wd (ab (aj ?_)))⟩⟩
            exact⟨.inl z,.string x35,tk0 z ⟨ba z (ad ai) z,k1,_,_,_,aI _,E,z,H.ag [0,1,2,3,4,5,6] z z⟩⟩
          ·refine(cr vB H (fun b7 w H=>⟨fun _=>⟨_,_,H.ag [0,1,2,3,4,5,6,7,8] z z⟩,wo 14 z (au CB z ((mi.calls (H.Gt 0 z) (H.cb 7 0 z z z (ao (H.Gt 7 z))) (H.cb 8 0 z z z (ao (H.Gt 8 z))) E15).mono ?_))⟩))
           rintro _ w ⟨m5,v15,v16,v17,rfl,K⟩
           have H:=H.aV 0 z K
           refine⟨_,z,⟨fun _=>⟨_,_,H.ag [0,1,2,3,4,5,6,7,8] z z⟩,?_⟩⟩
           have H:St (Rs.env).fp w0 _ [.gd b2 m5 x30.2,.lv,.blk b3 #[pt b2,ii x1,ii x2,ii x3,ii x4,ii x6,sn,sn] 62,.mf b4 [(.string dJ,.func (.func 32) #[pt b3] #[]),(.string dK,.func (.func 33) #[pt b3] #[]),(.string dT,.func (.func 34) #[pt b3] #[]),(.string dU,.func (.func 35) #[pt b3] #[]),(.string dV,.func (.func 36) #[pt b3] #[]),(.string dW,.func (.func 37) #[pt b3] #[]),(.string dS,.func (.func 38) #[pt b3] #[]),(.string ez,.func (.func 39) #[pt b3] #[]),(.string eA,.func (.func 40) #[pt b3] #[]),(.string eB,.func (.func 41) #[pt b3] #[])],.own .str 9 v1 l1,.df b1 v3 (sb l3),.own .str 9 v4 x8,.own (.int .u8) 5 v13 x28.1,.own (.int .i64) 3 v14 x29.1,.own (.int .u8) 5 v15 x30.1.1.1,.own (.int .u8) 5 v16 x30.1.1.2.1,.own (.int .i64) 3 v17 x30.1.1.2.2,.blk b7 #[sn,sn,sn] 33]:=H.ag [0,1,2,3,4,5,6,7,8,10,11,12,9] z z
           refine wg 15 z (⟨_,_,H.ag [0,1,2,3,4,5,6,7,8] z z⟩) cz (wg 16 z (⟨_,_,H.ag [0,1,2,3,4,5,6,7,8] z z⟩) (aX z z) (wg 17 z (⟨_,_,H.ag [0,1,2,3,4,5,6,7,8] z z⟩) (aX z z) ?_))
           have H:St (Rs.env).fp w0 _ [.gd b2 m5 x30.2,.lv,.blk b3 #[pt b2,ii x1,ii x2,ii x3,ii x4,ii x6,sn,sn] 62,.mf b4 [(.string dJ,.func (.func 32) #[pt b3] #[]),(.string dK,.func (.func 33) #[pt b3] #[]),(.string dT,.func (.func 34) #[pt b3] #[]),(.string dU,.func (.func 35) #[pt b3] #[]),(.string dV,.func (.func 36) #[pt b3] #[]),(.string dW,.func (.func 37) #[pt b3] #[]),(.string dS,.func (.func 38) #[pt b3] #[]),(.string ez,.func (.func 39) #[pt b3] #[]),(.string eA,.func (.func 40) #[pt b3] #[]),(.string eB,.func (.func 41) #[pt b3] #[])],.own .str 9 v1 l1,.df b1 v3 (sb l3),.own .str 9 v4 x8,.own (.int .u8) 5 v13 x28.1,.own (.int .i64) 3 v14 x29.1,.own (.int .u8) 5 v15 x30.1.1.1,.own (.int .u8) 5 v16 x30.1.1.2.1,.own (.int .i64) 3 v17 x30.1.1.2.2,.blk b7 #[sn,sn,sn] 33]:=H
           obtain⟨p11,n1,c19,rfl⟩:=bX (H.Gt 9 z)
           obtain⟨p12,n2,c20,rfl⟩:=bX (H.Gt 10 z)
           obtain⟨p13,n3,c21,rfl⟩:=bX (H.Gt 11 z)
           refine wo 19 z (cy sR H 12 z z z z z z (fun w H=>⟨fun _=>⟨_,_,H.ag [0,1,2,3,4,5,6,7,8] z z⟩,wg 20 z ⟨_,_,H.ag [0,1,2,3,4,5,6,7,8] z z⟩ (sg (.int .u16 x30.1.2) z) (wd (ab (ae (rg (vm (.int .u16 x30.1.2) (vr (cx z z) (nl ?_)))))))⟩))
           refine aE E z (fun c22 E=>?_) (fun c22 E=>?_)
           ·refine rg (vm (.int .u16 x30.1.2) ?_)
            obtain⟨x31,E16,E⟩:=ay E
            refine ye (au rS z ((jT.calls (H.Gt 1 z) E16).mono ?_))
            rintro _ w ⟨rfl,K⟩
            have H:=H.aV 1 z K
            refine⟨_,z,va (.string x31) (nl (aj ?_))⟩
            exact(aL ⟨.inl z,.string x31,tk0 z ⟨ba z (ad ai) z,k1,_,_,_,aI _,E,z,H.ag [0,1,2,3,4,5,6] z z⟩⟩)
           ·refine aA (ab (ae (cd (ds:=[]) bZ H z z ?_)))
            have H:=H.drew
            refine wg 0 z H (az CE z) (wz 1 z H (fun w H=>av bQ z (ak (H.Gt 12 z) z)) (wg 3 z H (az CD z) (wz 4 z H (fun w H=>av bQ z (ak (H.Gt 12 z) z)) (wg 6 z H (az CF z) (wz 7 z H (fun w H=>av eU z (ak (H.Gt 12 z) z)) ?_)))))
            obtain⟨x32,E17,E⟩:=ay E
            refine wo 2 z (au qg z ((eM.calls (my (H.Gt 0 z)) (qd (H.cb 10 0 z z z (ao (H.Gt 10 z)))) E17).mono ?_))
            rintro _ w ⟨rfl,K⟩
            have H:=H.oU 0 z K
            refine⟨_,z,⟨fun _=>H.ag [0,1,2,3,4,5,6,7,8,9,10,11,12] z z,?_⟩⟩
            obtain⟨x33,E18,E⟩:=ay E
            refine wo 5 z (au qg z ((eM.calls (my (H.Gt 0 z)) (qd (H.cb 9 0 z z z (ao (H.Gt 9 z)))) E18).mono ?_))
            rintro _ w ⟨rfl,K⟩
            have H:=H.oU 0 z K
            refine⟨_,z,⟨fun _=>H.ag [0,1,2,3,4,5,6,7,8,9,10,11,12] z z,?_⟩⟩
            obtain⟨x34,E19,E⟩:=ay E
            refine wo 8 z (au xe z ((bM.calls (H.Gt 1 z) (H.cb 11 1 z z z (ao (H.Gt 11 z))) E19).mono ?_))
            rintro _ w ⟨rfl,K⟩
            have H:=H.aV 1 z K
            refine⟨_,z,⟨fun _=>H.ag [0,1,2,3,4,5,6,7,8,9,10,11,12] z z,wo 9 z (cL (e:=.str) (l:=[x32,x33,x34]) ig H z (by decide) ⟨z,z,z,z,z,z,trivial⟩ (by decide) (fun v19 w H=>⟨fun _=>H.ag [0,1,2,3,4,5,6,7,8,9,10,11,12] z z,?_⟩))⟩⟩
            have H:St (Rs.env).fp w0 _ [.gd b2 m5 x30.2,.lv,.blk b3 #[pt b2,ii x1,ii x2,ii x3,ii x4,ii x6,sn,sn] 62,.mf b4 [(.string dJ,.func (.func 32) #[pt b3] #[]),(.string dK,.func (.func 33) #[pt b3] #[]),(.string dT,.func (.func 34) #[pt b3] #[]),(.string dU,.func (.func 35) #[pt b3] #[]),(.string dV,.func (.func 36) #[pt b3] #[]),(.string dW,.func (.func 37) #[pt b3] #[]),(.string dS,.func (.func 38) #[pt b3] #[]),(.string ez,.func (.func 39) #[pt b3] #[]),(.string eA,.func (.func 40) #[pt b3] #[]),(.string eB,.func (.func 41) #[pt b3] #[])],.own .str 9 v1 l1,.df b1 v3 (sb l3),.own .str 9 v4 x8,.own (.int .u8) 5 v13 x28.1,.own (.int .i64) 3 v14 x29.1,.own (.int .u8) 5 (.slice p11 n1 c19) x30.1.1.1,.own (.int .u8) 5 (.slice p12 n2 c20) x30.1.1.2.1,.own (.int .i64) 3 (.slice p13 n3 c21) x30.1.1.2.2,.blk b7 #[(.slice p11 n1 c19),(.slice p12 n2 c20),(.slice p13 n3 c21)] 33,.own .str 9 v19 ([x32,x33,x34])]:=H
            obtain⟨x35,E20,E⟩:=ay E
            refine wo 10 z (au CC z ((kV.calls (H.own 13 z (ao (H.Gt 13 z))) E20).mono ?_))
            rintro _ w ⟨rfl,K⟩
            have H:=H.app K
            refine⟨_,z,⟨fun _=>H.ag [0,1,2,3,4,5,6,7,8,9,10,11,12] z z,wg 11 z (H.ag [0,1,2,3,4,5,6,7,8,9,10,11,12] z z) (sg (.string x35) z) (wd (ab (aj ?_)))⟩⟩
            exact⟨.inl z,.string x35,tk0 z ⟨ba z (ad ai) z,k1,_,_,_,aI _,E,z,H.ag [0,1,2,3,4,5,6] z z⟩⟩
      rintro _ w ⟨k5,l5,x27,m4,hk6,E,hv_,H⟩
      have hv_:=hv_.symm
      subst hv_
      unfold bg.j4 at E
      refine va (.string x27) (nl (aH (vm (.string x27) ?_)))
      obtain⟨g47,E⟩:=ar E
      refine vr (cJ z z g47) ?_
      obtain⟨g48,E⟩:=ar E
      refine ye (ma H 5 z ot z z g48 (fun v20 w H=>aK (aR (ab (aH (vr (aO z z) (vm (ii (i64.wrap (x7+1))) (aK ?_))))))))
      exact⟨k5,by omega,_,_,_,_,_,_,_,_,_,_,_,by omega,E,aD ⟨z,z,z,z,z,z,z,trivial⟩,H.ag [0,1,2,3,4,5] z z⟩
     ·have E:=iF c15 E
      rcases bR (decide (at_ ByteArray.empty x8 0=dV))with c23|c23
      ·have E:=iT c23 E
       refine vr (ou Tryz.underlying9 Tryz.underlying64 oy (H.Gt 3 z) z z z (by simp only[List.nil_append,List.cons_append,kt,c3,c7,c11,c15,c23,cond_true,cond_false])) (vr (sg (.func (.func 36) #[pt b3] #[]) z) (nl (rg (vr (mv (.func (.func 36) #[pt b3] #[]) z) (vr (qh Tryz.underlying63 z z z) (nl (cl z (aH (vr (mv (.func (.func 36) #[pt b3] #[]) z) (vr (mv v4 z) ?_))))))))))
       obtain⟨⟨g49,g50⟩,E⟩:=ar E
       have p14:(1:Int).toNat≤x8.length:=by omega
       have p15:x8.length≤x8.length:=by omega
       refine vr (iW ig (ao (H.Gt 6 z)) z z g49 g50) ?_
       refine ye (fZ (fun v w=>∃(k6:Nat)(x36:ByteArray),k6≤k1∧bg.j5 (bg.l0 k6) k6 l1 l2 l3 x1 x2 x3 x4 x6 x7 x36=some r∧v= .string x36∧St (Rs.env).fp w0 w [.gd b2 m1 l2,.lv,.blk b3 #[pt b2,ii x1,ii x2,ii x3,ii x4,ii x6,sn,sn] 62,.mf b4 [(.string dJ,.func (.func 32) #[pt b3] #[]),(.string dK,.func (.func 33) #[pt b3] #[]),(.string dT,.func (.func 34) #[pt b3] #[]),(.string dU,.func (.func 35) #[pt b3] #[]),(.string dV,.func (.func 36) #[pt b3] #[]),(.string dW,.func (.func 37) #[pt b3] #[]),(.string dS,.func (.func 38) #[pt b3] #[]),(.string ez,.func (.func 39) #[pt b3] #[]),(.string eA,.func (.func 40) #[pt b3] #[]),(.string eB,.func (.func 41) #[pt b3] #[])],.own .str 9 v1 l1,.df b1 v3 (sb l3),.own .str 9 v4 x8]) ?_ ?_)
       ·refine(qw 27 [pt b3,bz v4 ((1:Int).toNat) x8.length 1] z Oi Tryz.func36 z z z z (rg (va (.string kB) (nl (ae (rg (vm (bz v4 ((1:Int).toNat) x8.length 1) (vr (aY na (Rd.bz (ao (H.Gt 6 z)) p14 p15) z) (vr (cx z z) (nl ?_))))))))))
        refine aE E z (fun c24 E=>?_) (fun c24 E=>?_)
        ·refine rg (va (.string cO) (nl (aj ?_)))
         exact(aL ⟨.inl z,.string cO,tk0 z ⟨ba z (ad ai) z,k1,_,aI _,E,z,H⟩⟩)
        ·refine aA (ab (rg (vm (bz v4 ((1:Int).toNat) x8.length 1) ?_)))
         obtain⟨⟨g51,g52⟩,E⟩:=ar E
         refine vr (bo ig (Rd.bz (ao (H.Gt 6 z)) p14 p15) z z g51 g52) (vr (lO (e:=.str) (j:=0) qi (Rd.bz (ao (H.Gt 6 z)) p14 p15) (ga ByteArray.empty g51 g52) z z) ?_)
         obtain⟨x37,E21,E⟩:=ay E
         refine ye (au xd z ((fx.calls E21).mono ?_))
         rintro _ w ⟨v21,rfl,K⟩
         have H:=H.app K
         refine⟨_,z,vr cz (vr (aX z z) (vr (aX z z) (va v21 (va (.bool x37.2) (nl (ae (rg (vm (.bool x37.2) (vr (cp z) (nl ?_))))))))))⟩
         refine aE E z (fun c26 E=>?_) (fun c26 E=>?_)
         ·refine rg (va (.string cO) (nl (aj ?_)))
          exact(aL ⟨.inl z,.string cO,tk0 z ⟨ba z (ad ai) z,k1,_,aI _,E,z,H.ag [0,1,2,3,4,5,6] z z⟩⟩)
         ·refine aA (ab (ae (cd (ds:=[]) bZ H z z ?_)))
          have H:=H.drew
          refine wm 1 z H (pt b3) (wg 2 z H (bw z) (wg 3 z H (az uf z) (wz 4 z H (fun w H=>bp (l:=[ii x1,ii x2,ii x3]) cv (H.Gt 2 z) z z z) (wm 5 z H v21 (wo 0 z (cm 26 [ii 2] Ou Tryz.func77 z z z z (rg (va (.pointer none) (nl (ae (rg (vm (ii 2) (nl (aG (rg (vr (bJ (v':=.bool false) (cg z z) z) (va (.bool false) (nl (bS z (rg (vr (bJ (v':=.bool true) (cg z z) z) (va (.bool true) (nl (cl z (rg (vr (cf (cs:=[]) N9 z) (vr (uk Tryz.underlying187 z) (vm (ii 2) (vr (cf (cs:=[.iface 187 (.agg #[]),ii 2]) N8 z) (ye (bc (cs:=#[.iface 187 (.agg #[]),ii 2]) H z (fun b8 w H=>va (pt b8) (nl (aj (bG (aL ⟨.inl z,pt b8,tk0 z ⟨ba z (ad ai) z,(⟨fun _=>H.ag [0,1,2,3,4,5,6,7] z z,?_⟩)⟩⟩))))))))))))))))))))))))))))))))))))
          obtain⟨x38,E22,E⟩:=ay E
          refine wo 6 z (au Ot z ((lU.calls (IK H 8 0 z z z) (H.M7 7 8 0 z z z z z (ao (H.Gt 7 z))) E22).mono ?_))
          rintro _ w ⟨v22,rfl,K⟩
          have H:=H.Fq 8 0 z z z K
          refine⟨_,z,⟨fun _=>H.ag [0,1,2,3,4,5,6,7] z z,?_⟩⟩
          obtain⟨x39,E23,E⟩:=ay E
          refine wo 7 z (au qg z ((eM.calls (my (H.Gt 0 z)) (qd (H.cb 9 0 z z z (ao (H.Gt 9 z)))) E23).mono ?_))
          rintro _ w ⟨rfl,K⟩
          have H:=H.oU 0 z K
          refine⟨_,z,⟨fun _=>H.ag [0,1,2,3,4,5,6,7] z z,?_⟩⟩
          have H:St (Rs.env).fp w0 _ [.gd b2 m1 l2,.lv,.blk b3 #[pt b2,ii x1,ii x2,ii x3,ii x4,ii x6,sn,sn] 62,.mf b4 [(.string dJ,.func (.func 32) #[pt b3] #[]),(.string dK,.func (.func 33) #[pt b3] #[]),(.string dT,.func (.func 34) #[pt b3] #[]),(.string dU,.func (.func 35) #[pt b3] #[]),(.string dV,.func (.func 36) #[pt b3] #[]),(.string dW,.func (.func 37) #[pt b3] #[]),(.string dS,.func (.func 38) #[pt b3] #[]),(.string ez,.func (.func 39) #[pt b3] #[]),(.string eA,.func (.func 40) #[pt b3] #[]),(.string eB,.func (.func 41) #[pt b3] #[])],.own .str 9 v1 l1,.df b1 v3 (sb l3),.own .str 9 v4 x8,.own (.int .u8) 5 v21 x37.1,.blk b8 #[.iface 187 (.agg #[]),ii 2] 186,.own (.int .u8) 5 v22 x38]:=H
          refine wg 8 z (H.ag [0,1,2,3,4,5,6,7] z z) (sg (.string x39) z) (wd (ab (aj ?_)))
          exact⟨.inl z,.string x39,tk0 z ⟨ba z (ad ai) z,k1,_,aI _,E,z,H.ag [0,1,2,3,4,5,6] z z⟩⟩
       rintro _ w ⟨k6,x36,hk7,E,hv_,H⟩
       have hv_:=hv_.symm
       subst hv_
       unfold bg.j5 at E
       refine va (.string x36) (nl (aH (vm (.string x36) ?_)))
       obtain⟨g53,E⟩:=ar E
       refine vr (cJ z z g53) ?_
       obtain⟨g54,E⟩:=ar E
       refine ye (ma H 5 z ot z z g54 (fun v23 w H=>aK (aR (ab (aH (vr (aO z z) (vm (ii (i64.wrap (x7+1))) (aK ?_))))))))
       exact⟨k6,by omega,_,_,_,_,_,_,_,_,_,_,_,by omega,E,aD ⟨z,z,z,z,z,z,z,trivial⟩,H.ag [0,1,2,3,4,5] z z⟩
      ·have E:=iF c23 E
       rcases bR (decide (at_ ByteArray.empty x8 0=dW))with c27|c27
       ·have E:=iT c27 E
        cases E
       ·have E:=iF c27 E
        rcases bR (decide (at_ ByteArray.empty x8 0=dS))with c28|c28
        ·have E:=iT c28 E
         cases E
        ·have E:=iF c28 E
         rcases bR (decide (at_ ByteArray.empty x8 0=ez))with c29|c29
         ·have E:=iT c29 E
          cases E
         ·have E:=iF c29 E
          rcases bR (decide (at_ ByteArray.empty x8 0=eA))with c30|c30
          ·have E:=iT c30 E
           cases E
          ·have E:=iF c30 E
           rcases bR (decide (at_ ByteArray.empty x8 0=eB))with c31|c31
           ·have E:=iT c31 E
            refine vr (ou Tryz.underlying9 Tryz.underlying64 oy (H.Gt 3 z) z z z (by simp only[List.nil_append,List.cons_append,kt,c3,c7,c11,c15,c23,c27,c28,c29,c30,c31,cond_true,cond_false])) (vr (sg (.func (.func 41) #[pt b3] #[]) z) (nl (rg (vr (mv (.func (.func 41) #[pt b3] #[]) z) (vr (qh Tryz.underlying63 z z z) (nl (cl z (aH (vr (mv (.func (.func 41) #[pt b3] #[]) z) (vr (mv v4 z) ?_))))))))))
            obtain⟨⟨g55,g56⟩,E⟩:=ar E
            have p16:(1:Int).toNat≤x8.length:=by omega
            have p17:x8.length≤x8.length:=by omega
            refine vr (iW ig (ao (H.Gt 6 z)) z z g55 g56) ?_
            refine ye (fZ (fun v w=>∃(k7:Nat)(l6:List Int)(x40:ByteArray)(m6:DS),k7≤k1∧bg.j6 (bg.l0 k7) k7 l1 l3 x1 x2 x3 x4 x6 x7 l6 x40=some r∧v= .string x40∧St (Rs.env).fp w0 w [.gd b2 m6 l6,.lv,.blk b3 #[pt b2,ii x1,ii x2,ii x3,ii x4,ii x6,sn,sn] 62,.mf b4 [(.string dJ,.func (.func 32) #[pt b3] #[]),(.string dK,.func (.func 33) #[pt b3] #[]),(.string dT,.func (.func 34) #[pt b3] #[]),(.string dU,.func (.func 35) #[pt b3] #[]),(.string dV,.func (.func 36) #[pt b3] #[]),(.string dW,.func (.func 37) #[pt b3] #[]),(.string dS,.func (.func 38) #[pt b3] #[]),(.string ez,.func (.func 39) #[pt b3] #[]),(.string eA,.func (.func 40) #[pt b3] #[]),(.string eB,.func (.func 41) #[pt b3] #[])],.own .str 9 v1 l1,.df b1 v3 (sb l3),.own .str 9 v4 x8]) ?_ ?_)
            ·refine(qw 29 [pt b3,bz v4 ((1:Int).toNat) x8.length 1] z Oj Tryz.func41 z z z z (rg (va (.string kB) (nl (ae (rg (vm (bz v4 ((1:Int).toNat) x8.length 1) (vr (aY na (Rd.bz (ao (H.Gt 6 z)) p16 p17) z) (vr (dy z z) (nl ?_))))))))))
             refine aE E z (fun c32 E=>?_) (fun c32 E=>?_)
             ·refine rg (va (.string cO) (nl (aj ?_)))
              exact(aL ⟨.inl z,.string cO,tk0 z ⟨ba z (ad ai) z,k1,_,_,_,aI _,E,z,H⟩⟩)
             ·refine aA (ab (rg (va sn (nl (ae (rg ?_))))))
              obtain⟨x41,E24,E⟩:=ay E
              refine ye (au Ov z ((fQ.calls E24).mono ?_))
              rintro _ w ⟨v24,rfl,K⟩
              have H:=H.app K
              refine⟨_,z,vr (aY OS (ao (H.Gt 7 z)) z) (vm (ii 0) (nl (aG ?_)))⟩
              have H:=H.bB (.int .i64) 3
              refine bx (fun kk t w=>∃(l7:List Int)(l8:List Int)(x42:Int)(m7:DS)(v25:Value)(t3:Fr),kk≤k1∧bg.l1 kk l1 l3 x1 x2 x3 x4 x6 x7 x41 l7 l8 x42=some r∧t=aU t3 [(0,pt b3),(4,.string kB),(5,v25),(11,v24),(12,ii (x41.length:Int)),(13,ii x42),(1000000,undef)]∧St (Rs.env).fp w0 w [.gd b2 m7 l7,.lv,.blk b3 #[pt b2,ii x1,ii x2,ii x3,ii x4,ii x6,sn,sn] 62,.mf b4 [(.string dJ,.func (.func 32) #[pt b3] #[]),(.string dK,.func (.func 33) #[pt b3] #[]),(.string dT,.func (.func 34) #[pt b3] #[]),(.string dU,.func (.func 35) #[pt b3] #[]),(.string dV,.func (.func 36) #[pt b3] #[]),(.string dW,.func (.func 37) #[pt b3] #[]),(.string dS,.func (.func 38) #[pt b3] #[]),(.string ez,.func (.func 39) #[pt b3] #[]),(.string eA,.func (.func 40) #[pt b3] #[]),(.string eB,.func (.func 41) #[pt b3] #[])],.own .str 9 v1 l1,.df b1 v3 (sb l3),.own .str 9 v4 x8,.own (.pr (.int .i64) (.int .i64)) 60 v24 x41,.own (.int .i64) 3 v25 l8]) k1 ?_ ?_
              ·exact⟨_,_,_,_,_,_,aI _,E,aD ⟨z,z,z,z,z,z,z,trivial⟩,H⟩
              rintro kk t w ⟨l7,l8,x42,m7,v25,t3,hk8,E,rfl,H⟩
              obtain⟨k8,rfl⟩|rfl:=ks kk
              rotate_left
              ·cases E
              rw[bg.l1]at E
              refine rg (vr (aZ z z) (nl (ae ?_)))
              refine aE E z (fun c33 E=>?_) (fun c33 E=>?_)
              ·refine aA (ab (ae (aG (rg ?_))))
               obtain⟨⟨g57,g58⟩,E⟩:=ar E
               refine vr (bo xn (ao (H.Gt 7 z)) z z g57 g58) (vr (OB (z:=(0,0)) gH (ao (H.Gt 7 z)) g57 g58 z z) (ye (cr q9 H (fun b9 w H=>s_ (cy lz H 9 z z z z z z (fun w H=>nl (eZ (ds:=[]) (fun w=>∃(d':DS)(n':List Int)(v':Value)(l':List Int),St (Rs.env).fp w0 w [.gd b2 d' n',.lv,.blk b3 #[pt b2,ii x1,ii x2,ii x3,ii x4,ii x6,sn,sn] 62,.mf b4 [(.string dJ,.func (.func 32) #[pt b3] #[]),(.string dK,.func (.func 33) #[pt b3] #[]),(.string dT,.func (.func 34) #[pt b3] #[]),(.string dU,.func (.func 35) #[pt b3] #[]),(.string dV,.func (.func 36) #[pt b3] #[]),(.string dW,.func (.func 37) #[pt b3] #[]),(.string dS,.func (.func 38) #[pt b3] #[]),(.string ez,.func (.func 39) #[pt b3] #[]),(.string eA,.func (.func 40) #[pt b3] #[]),(.string eB,.func (.func 41) #[pt b3] #[])],.own .str 9 v1 l1,.df b1 v3 (sb l3),.own .str 9 v4 x8,.own (.pr (.int .i64) (.int .i64)) 60 v24 x41,.own (.int .i64) 3 v' l',.blk b9 #[ii ((at_ (0,0) x41 x42).1),ii ((at_ (0,0) x41 x42).2)] 60]) bZ H z z ?_)))))))
               have H:=H.drew
               refine wm 0 z ⟨_,_,_,_,H⟩ v25 (wm 1 z ⟨_,_,_,_,H⟩ (pt b3) (wg 2 z ⟨_,_,_,_,H⟩ (bw z) (wg 3 z ⟨_,_,_,_,H⟩ (az xf z) (wz 4 z ⟨_,_,_,_,H⟩ (fun w ⟨d',n',v',l',H⟩=>av xm z (ak (H.Gt 2 z) z)) (wz 5 z ⟨_,_,_,_,H⟩ (fun w ⟨d',n',v',l',H⟩=>bp (l:=[ii ((at_ (0,0) x41 x42).1),ii ((at_ (0,0) x41 x42).2)]) gH (H.Gt 9 z) z z z) ?_)))))
               obtain⟨x43,E25,E⟩:=ay E
               refine wo 6 z (au Ow z ((qN.calls (H.Gt 0 z) E25).mono ?_))
               rintro _ w ⟨m8,rfl,K⟩
               have H:=H.aV 0 z K
               refine⟨_,z,⟨fun _=>⟨_,_,_,_,H.ag [0,1,2,3,4,5,6,7,8,9] z z⟩,wo 7 z (cL (e:=(.int .i64)) (l:=[x43.1]) gl H z (by decide) ⟨z,z,trivial⟩ (by decide) (fun v27 w H=>⟨fun _=>⟨_,_,_,_,H.ag [0,1,2,3,4,5,6,7,8,9] z z⟩,?_⟩))⟩⟩
               obtain⟨g59,E⟩:=ar E
               refine wo 8 z (dZ gl H 8 z (ao (H.Gt 10 z)) z z (by omega) (by unfold maxLen;omega) (fun v28 w H=>⟨fun _=>⟨_,_,_,_,H.ag [0,1,2,3,4,5,6,7,8,9] z z⟩,?_⟩))
               have H:St (Rs.env).fp w0 _ [.gd b2 m8 x43.2,.lv,.blk b3 #[pt b2,ii x1,ii x2,ii x3,ii x4,ii x6,sn,sn] 62,.mf b4 [(.string dJ,.func (.func 32) #[pt b3] #[]),(.string dK,.func (.func 33) #[pt b3] #[]),(.string dT,.func (.func 34) #[pt b3] #[]),(.string dU,.func (.func 35) #[pt b3] #[]),(.string dV,.func (.func 36) #[pt b3] #[]),(.string dW,.func (.func 37) #[pt b3] #[]),(.string dS,.func (.func 38) #[pt b3] #[]),(.string ez,.func (.func 39) #[pt b3] #[]),(.string eA,.func (.func 40) #[pt b3] #[]),(.string eB,.func (.func 41) #[pt b3] #[])],.own .str 9 v1 l1,.df b1 v3 (sb l3),.own .str 9 v4 x8,.own (.pr (.int .i64) (.int .i64)) 60 v24 x41,.own (.int .i64) 3 v28 (l8++([x43.1])),.blk b9 #[ii ((at_ (0,0) x41 x42).1),ii ((at_ (0,0) x41 x42).2)] 60,.own (.int .i64) 3 v27 ([x43.1])]:=H
               refine wg 9 z ⟨_,_,_,_,H.ag [0,1,2,3,4,5,6,7,8,9] z z⟩ (sg v28 z) (wd (aR (ab (aH (vr (aO z z) (vm (ii (i64.wrap (x42+1))) (aK ?_)))))))
               exact⟨k8,bL _,_,_,_,_,_,_,bK hk8,E,aD ⟨z,z,z,z,z,z,z,trivial⟩,H.ag [0,1,2,3,4,5,6,7,8] z z⟩
              ·refine bt (aM (aM (bu (ab (rg (vm v25 ?_))))))
               obtain⟨x44,E26,E⟩:=ay E
               refine ye (au xe z ((bM.calls (H.Gt 1 z) (H.cb 8 1 z z z (ao (H.Gt 8 z))) E26).mono ?_))
               rintro _ w ⟨rfl,K⟩
               have H:=H.aV 1 z K
               refine⟨_,z,va (.string x44) (nl (aj ?_))⟩
               exact⟨.inl z,.string x44,tk0 z ⟨ba z (ad ai) z,k8,_,_,_,by omega,E,z,H.ag [0,1,2,3,4,5,6] z z⟩⟩
            rintro _ w ⟨k7,l6,x40,m6,hk9,E,hv_,H⟩
            have hv_:=hv_.symm
            subst hv_
            unfold bg.j6 at E
            refine va (.string x40) (nl (aH (vm (.string x40) ?_)))
            obtain⟨g60,E⟩:=ar E
            refine vr (cJ z z g60) ?_
            obtain⟨g61,E⟩:=ar E
            refine ye (ma H 5 z ot z z g61 (fun v29 w H=>aK (aR (ab (aH (vr (aO z z) (vm (ii (i64.wrap (x7+1))) (aK ?_))))))))
            exact⟨k7,by omega,_,_,_,_,_,_,_,_,_,_,_,by omega,E,aD ⟨z,z,z,z,z,z,z,trivial⟩,H.ag [0,1,2,3,4,5] z z⟩
           ·have E:=iF c31 E
            refine vr (ou Tryz.underlying9 Tryz.underlying64 oy (H.Gt 3 z) z z z (by simp only[List.nil_append,List.cons_append,kt,c3,c7,c11,c15,c23,c27,c28,c29,c30,c31,cond_true,cond_false])) (vr (sg (.nilFunc) z) (nl (rg (vr (mv (.nilFunc) z) (vr (OA Tryz.underlying63 z z z) (nl (bS z (aA (ab (aH (vr (mv (.string cO) z) ?_)))))))))))
            obtain⟨g62,E⟩:=ar E
            refine vr (cJ z z g62) ?_
            obtain⟨g63,E⟩:=ar E
            refine ye (ma H 5 z ot z z g63 (fun v30 w H=>aK (aR (ab (aH (vr (aO z z) (vm (ii (i64.wrap (x7+1))) (aK ?_))))))))
            exact⟨k1,bL _,_,_,_,_,_,_,_,_,_,_,_,bK hk2,E,aD ⟨z,z,z,z,z,z,z,trivial⟩,H.ag [0,1,2,3,4,5] z z⟩
 ·refine bt (aM (aM (bu (ab (rg (ye (D9 H 5 z Om z (fun w H=>va (.string l3) (nl (aj ?_))))))))))
  cases E
  have H:=H.less 0 z my (fun _ h=>.inr (.inl h))
  exact⟨.inl z,_,tk0 z ⟨aB z (ad ai),z,H.bN 0 1 z z z⟩⟩
end Go.Proofs.YtmhkpafkadijgaaGreatDoor.Gw
