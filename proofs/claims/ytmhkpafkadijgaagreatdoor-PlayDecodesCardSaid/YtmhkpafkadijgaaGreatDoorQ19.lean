/- A part of the proof of Rows.PlayDecodesCardSaid; the conditions are that card's own. -/
import Derived.Test.YtmhkpafkadijgaaGreatDoorQ18
set_option linter.all false
set_option maxRecDepth 100000
set_option maxHeartbeats 4000000
namespace Go.Proofs.YtmhkpafkadijgaaGreatDoor.Gw
open Go.IntKind renaming wrap→I,i64→W
open Go Go.RowKit
variable[de]
open Go.IntKind (i8 i16 i32 i64 u8 u16 u32 u64)
open Tryz hiding prog
open Tryz renaming prog → aa
def bH.j0(l2r:(Int×Int×List Int)→List (Int)→List (Int)→Int→Option ((Int×Int×List Int)×List Int))(k:Nat)(a1:Int×Int×List Int)(l1:List Int):Option ((Int×Int×List Int)×List Int):=l2r a1 l1 ([]:List Int) 0
def bH.j1(l2r:(Int×Int×List Int)→List (Int)→List (Int)→Int→Option ((Int×Int×List Int)×List Int))(k:Nat)(a1:Int×Int×List Int)(l1:List Int)(x1:Int)(l2:List Int):Option ((Int×Int×List Int)×List Int):=an (decide ((l1.length+([x1]).length)*8≤140737488355328)) (l2r a1 l2 (l1++([x1])) (I W (x1+1)))
def bH.j2(l4r:(Int×Int×List Int)→List (Int)→Int→List (Int)→Int→Option ((Int×Int×List Int)×List Int))(l5r:(Int×Int×List Int)→List (Int)→Int→Int→List Int→List (Int)→Int→Option ((Int×Int×List Int)×List Int))(k:Nat)(a1:Int×Int×List Int)(l1:List Int)(x1:Int)(l2:List Int)(x2:Int)(x3:Bool):Option ((Int×Int×List Int)×List Int):=bif x3 then(an (decide ((0:Int)≤I W ((l1.length:Int)*I W (a1.2.1+0))∧I W ((l1.length:Int)*I W (a1.2.1+0))≤I W (I W ((l1.length:Int)+1)*I W (a1.2.1+0))∧I W (I W ((l1.length:Int)+1)*I W (a1.2.1+0))≤I W (I W ((l1.length:Int)+1)*I W (a1.2.1+0))∧I W (I W ((l1.length:Int)+1)*I W (a1.2.1+0))≤(l2.length:Int))) ((gn.f k (at_ 0 ((l2.take ((I W (I W (x2+1)*I W (a1.2.1+0))).toNat)).drop ((I W (x2*I W (a1.2.1+0))).toNat)) x1) ((l2.take ((I W (I W ((l1.length:Int)+1)*I W (a1.2.1+0))).toNat)).drop ((I W ((l1.length:Int)*I W (a1.2.1+0))).toNat))).bind fun x4=>l5r a1 l1 x1 x2 x4 l2 0))else(l4r a1 l1 x1 l2 (I W (x2+1)))
mutual
def bH.l0:Nat→(Int×Int×List Int)→List (Int)→Int→Option ((Int×Int×List Int)×List Int)
 |0,_,_,_=>none
 |k+1,a1,l1,x1=>bif decide (x1<a1.1)then(an (decide ((0:Int)≤I W (x1*a1.2.1)∧I W (x1*a1.2.1)≤I W (I W (x1+1)*a1.2.1)∧I W (I W (x1+1)*a1.2.1)≤(a1.2.2.length:Int))) (an (decide ((l1.length+((a1.2.2.take ((I W (I W (x1+1)*a1.2.1)).toNat)).drop ((I W (x1*a1.2.1)).toNat)).length)*1≤140737488355328)) (bH.l1 k a1 l1 x1)))else(bH.j0 (bH.l2 k) k a1 l1)
def bH.l1:Nat→(Int×Int×List Int)→List (Int)→Int→Option ((Int×Int×List Int)×List Int)
 |0,_,_,_=>none
 |k+1,a1,l1,x1=>bH.l0 k a1 (l1++(a1.2.2.take ((I W (I W (x1+1)*a1.2.1)).toNat)).drop ((I W (x1*a1.2.1)).toNat)) (I W (x1+1))
def bH.l2:Nat→(Int×Int×List Int)→List (Int)→List (Int)→Int→Option ((Int×Int×List Int)×List Int)
 |0,_,_,_,_=>none
 |k+1,a1,l2,l3,x2=>bif decide (x2<a1.2.1)then(bH.l3 k a1 l2 l3 x2 (l3.length:Int))else(some ((a1.1,I W (a1.2.1+0),l2),l3))
def bH.l3:Nat→(Int×Int×List Int)→List (Int)→List (Int)→Int→Int→Option ((Int×Int×List Int)×List Int)
 |0,_,_,_,_,_=>none
 |k+1,a1,l2,l3,x2,x3=>bif decide (x3<a1.1)then(an (decide ((0:Int)≤I W (x3*I W (a1.2.1+0))∧I W (x3*I W (a1.2.1+0))≤I W (I W (x3+1)*I W (a1.2.1+0))∧I W (I W (x3+1)*I W (a1.2.1+0))≤I W (I W (x3+1)*I W (a1.2.1+0))∧I W (I W (x3+1)*I W (a1.2.1+0))≤(l2.length:Int))) (an (decide ((0:Int)≤x2∧x2<(((l2.take ((I W (I W (x3+1)*I W (a1.2.1+0))).toNat)).drop ((I W (x3*I W (a1.2.1+0))).toNat)).length:Int))) (bif !decide (at_ 0 ((l2.take ((I W (I W (x3+1)*I W (a1.2.1+0))).toNat)).drop ((I W (x3*I W (a1.2.1+0))).toNat)) x2=0)then(an (decide ((0:Int)≤I W (x3*I W (a1.2.1+0))∧I W (x3*I W (a1.2.1+0))≤I W (I W (x3+1)*I W (a1.2.1+0))∧I W (I W (x3+1)*I W (a1.2.1+0))≤I W (I W (x3+1)*I W (a1.2.1+0))∧I W (I W (x3+1)*I W (a1.2.1+0))≤(l2.length:Int))) (an (decide ((0:Int)≤I W ((l3.length:Int)*I W (a1.2.1+0))∧I W ((l3.length:Int)*I W (a1.2.1+0))≤I W (I W ((l3.length:Int)+1)*I W (a1.2.1+0))∧I W (I W ((l3.length:Int)+1)*I W (a1.2.1+0))≤I W (I W ((l3.length:Int)+1)*I W (a1.2.1+0))∧I W (I W ((l3.length:Int)+1)*I W (a1.2.1+0))≤(l2.length:Int))) ((dM.f ((l2.take ((I W (I W (x3+1)*I W (a1.2.1+0))).toNat)).drop ((I W (x3*I W (a1.2.1+0))).toNat))).bind fun x4=>an (decide ((0:Int)≤I W ((l3.length:Int)*I W (a1.2.1+0))∧I W ((l3.length:Int)*I W (a1.2.1+0))≤I W (I W ((l3.length:Int)+1)*I W (a1.2.1+0))∧I W (I W ((l3.length:Int)+1)*I W (a1.2.1+0))≤I W (I W ((l3.length:Int)+1)*I W (a1.2.1+0))∧I W (I W ((l3.length:Int)+1)*I W (a1.2.1+0))≤((cB ((I W ((l3.length:Int)*I W (a1.2.1+0))).toNat) (((I W (I W ((l3.length:Int)+1)*I W (a1.2.1+0))).toNat)-((I W ((l3.length:Int)*I W (a1.2.1+0))).toNat)) x4 (cB ((I W (x3*I W (a1.2.1+0))).toNat) (((I W (I W (x3+1)*I W (a1.2.1+0))).toNat)-((I W (x3*I W (a1.2.1+0))).toNat)) ((l2.take ((I W (I W ((l3.length:Int)+1)*I W (a1.2.1+0))).toNat)).drop ((I W ((l3.length:Int)*I W (a1.2.1+0))).toNat)) l2)).length:Int))) (an (decide ((0:Int)≤x2∧x2<((((cB ((I W ((l3.length:Int)*I W (a1.2.1+0))).toNat) (((I W (I W ((l3.length:Int)+1)*I W (a1.2.1+0))).toNat)-((I W ((l3.length:Int)*I W (a1.2.1+0))).toNat)) x4 (cB ((I W (x3*I W (a1.2.1+0))).toNat) (((I W (I W (x3+1)*I W (a1.2.1+0))).toNat)-((I W (x3*I W (a1.2.1+0))).toNat)) ((l2.take ((I W (I W ((l3.length:Int)+1)*I W (a1.2.1+0))).toNat)).drop ((I W ((l3.length:Int)*I W (a1.2.1+0))).toNat)) l2)).take ((I W (I W ((l3.length:Int)+1)*I W (a1.2.1+0))).toNat)).drop ((I W ((l3.length:Int)*I W (a1.2.1+0))).toNat)).length:Int))) ((fN.f (at_ 0 (((cB ((I W ((l3.length:Int)*I W (a1.2.1+0))).toNat) (((I W (I W ((l3.length:Int)+1)*I W (a1.2.1+0))).toNat)-((I W ((l3.length:Int)*I W (a1.2.1+0))).toNat)) x4 (cB ((I W (x3*I W (a1.2.1+0))).toNat) (((I W (I W (x3+1)*I W (a1.2.1+0))).toNat)-((I W (x3*I W (a1.2.1+0))).toNat)) ((l2.take ((I W (I W ((l3.length:Int)+1)*I W (a1.2.1+0))).toNat)).drop ((I W ((l3.length:Int)*I W (a1.2.1+0))).toNat)) l2)).take ((I W (I W ((l3.length:Int)+1)*I W (a1.2.1+0))).toNat)).drop ((I W ((l3.length:Int)*I W (a1.2.1+0))).toNat)) x2)).bind fun x5=>an (decide ((0:Int)≤I W ((l3.length:Int)*I W (a1.2.1+0))∧I W ((l3.length:Int)*I W (a1.2.1+0))≤I W (I W ((l3.length:Int)+1)*I W (a1.2.1+0))∧I W (I W ((l3.length:Int)+1)*I W (a1.2.1+0))≤I W (I W ((l3.length:Int)+1)*I W (a1.2.1+0))∧I W (I W ((l3.length:Int)+1)*I W (a1.2.1+0))≤((cB ((I W ((l3.length:Int)*I W (a1.2.1+0))).toNat) (((I W (I W ((l3.length:Int)+1)*I W (a1.2.1+0))).toNat)-((I W ((l3.length:Int)*I W (a1.2.1+0))).toNat)) x4 (cB ((I W (x3*I W (a1.2.1+0))).toNat) (((I W (I W (x3+1)*I W (a1.2.1+0))).toNat)-((I W (x3*I W (a1.2.1+0))).toNat)) ((l2.take ((I W (I W ((l3.length:Int)+1)*I W (a1.2.1+0))).toNat)).drop ((I W ((l3.length:Int)*I W (a1.2.1+0))).toNat)) l2)).length:Int))) (an (decide ((0:Int)≤I W ((l3.length:Int)*I W (a1.2.1+0))∧I W ((l3.length:Int)*I W (a1.2.1+0))≤I W (I W ((l3.length:Int)+1)*I W (a1.2.1+0))∧I W (I W ((l3.length:Int)+1)*I W (a1.2.1+0))≤I W (I W ((l3.length:Int)+1)*I W (a1.2.1+0))∧I W (I W ((l3.length:Int)+1)*I W (a1.2.1+0))≤((cB ((I W ((l3.length:Int)*I W (a1.2.1+0))).toNat) (((I W (I W ((l3.length:Int)+1)*I W (a1.2.1+0))).toNat)-((I W ((l3.length:Int)*I W (a1.2.1+0))).toNat)) x4 (cB ((I W (x3*I W (a1.2.1+0))).toNat) (((I W (I W (x3+1)*I W (a1.2.1+0))).toNat)-((I W (x3*I W (a1.2.1+0))).toNat)) ((l2.take ((I W (I W ((l3.length:Int)+1)*I W (a1.2.1+0))).toNat)).drop ((I W ((l3.length:Int)*I W (a1.2.1+0))).toNat)) l2)).length:Int))) ((gn.f k x5.1 (((cB ((I W ((l3.length:Int)*I W (a1.2.1+0))).toNat) (((I W (I W ((l3.length:Int)+1)*I W (a1.2.1+0))).toNat)-((I W ((l3.length:Int)*I W (a1.2.1+0))).toNat)) x4 (cB ((I W (x3*I W (a1.2.1+0))).toNat) (((I W (I W (x3+1)*I W (a1.2.1+0))).toNat)-((I W (x3*I W (a1.2.1+0))).toNat)) ((l2.take ((I W (I W ((l3.length:Int)+1)*I W (a1.2.1+0))).toNat)).drop ((I W ((l3.length:Int)*I W (a1.2.1+0))).toNat)) l2)).take ((I W (I W ((l3.length:Int)+1)*I W (a1.2.1+0))).toNat)).drop ((I W ((l3.length:Int)*I W (a1.2.1+0))).toNat))).bind fun x6=>bH.l4 k a1 l3 x2 (cB ((I W ((l3.length:Int)*I W (a1.2.1+0))).toNat) (((I W (I W ((l3.length:Int)+1)*I W (a1.2.1+0))).toNat)-((I W ((l3.length:Int)*I W (a1.2.1+0))).toNat)) x6 (cB ((I W ((l3.length:Int)*I W (a1.2.1+0))).toNat) (((I W (I W ((l3.length:Int)+1)*I W (a1.2.1+0))).toNat)-((I W ((l3.length:Int)*I W (a1.2.1+0))).toNat)) x4 (cB ((I W (x3*I W (a1.2.1+0))).toNat) (((I W (I W (x3+1)*I W (a1.2.1+0))).toNat)-((I W (x3*I W (a1.2.1+0))).toNat)) ((l2.take ((I W (I W ((l3.length:Int)+1)*I W (a1.2.1+0))).toNat)).drop ((I W ((l3.length:Int)*I W (a1.2.1+0))).toNat)) l2))) 0)))))))else(bH.l3 k a1 l2 l3 x2 (I W (x3+1))))))else(bH.l2 k a1 l2 l3 (I W (x2+1)))
def bH.l4:Nat→(Int×Int×List Int)→List (Int)→Int→List (Int)→Int→Option ((Int×Int×List Int)×List Int)
 |0,_,_,_,_,_=>none
 |k+1,a1,l3,x2,l4,x7=>bif decide (x7<a1.1)then(an (decide ((0:Int)≤I W (x7*I W (a1.2.1+0))∧I W (x7*I W (a1.2.1+0))≤I W (I W (x7+1)*I W (a1.2.1+0))∧I W (I W (x7+1)*I W (a1.2.1+0))≤I W (I W (x7+1)*I W (a1.2.1+0))∧I W (I W (x7+1)*I W (a1.2.1+0))≤(l4.length:Int))) (an (decide ((0:Int)≤x2∧x2<(((l4.take ((I W (I W (x7+1)*I W (a1.2.1+0))).toNat)).drop ((I W (x7*I W (a1.2.1+0))).toNat)).length:Int))) (bif !decide (x7=(l3.length:Int))then(bH.j2 (bH.l4 k) (bH.l5 k) k a1 l3 x2 l4 x7 (!decide (at_ 0 ((l4.take ((I W (I W (x7+1)*I W (a1.2.1+0))).toNat)).drop ((I W (x7*I W (a1.2.1+0))).toNat)) x2=0)))else(bH.j2 (bH.l4 k) (bH.l5 k) k a1 l3 x2 l4 x7 false))))else(bH.j1 (bH.l2 k) k a1 l3 x2 l4)
def bH.l5:Nat→(Int×Int×List Int)→List (Int)→Int→Int→List Int→List (Int)→Int→Option ((Int×Int×List Int)×List Int)
 |0,_,_,_,_,_,_,_=>none
 |k+1,a1,l3,x2,x7,x8,l5,x9=>bif decide (x9<(x8.length:Int))then(an (decide ((0:Int)≤x9∧x9<(x8.length:Int))) (an (decide ((0:Int)≤I W (x7*I W (a1.2.1+0))∧I W (x7*I W (a1.2.1+0))≤I W (I W (x7+1)*I W (a1.2.1+0))∧I W (I W (x7+1)*I W (a1.2.1+0))≤I W (I W (x7+1)*I W (a1.2.1+0))∧I W (I W (x7+1)*I W (a1.2.1+0))≤(l5.length:Int))) (an (decide ((0:Int)≤x9∧x9<(((l5.take ((I W (I W (x7+1)*I W (a1.2.1+0))).toNat)).drop ((I W (x7*I W (a1.2.1+0))).toNat)).length:Int))) (an (decide ((0:Int)≤x9∧x9<(((l5.take ((I W (I W (x7+1)*I W (a1.2.1+0))).toNat)).drop ((I W (x7*I W (a1.2.1+0))).toNat)).length:Int))) (bH.l5 k a1 l3 x2 x7 x8 (l5.set ((I W (x7*I W (a1.2.1+0))).toNat+x9.toNat) (bits .xor .u8 (at_ 0 ((l5.take ((I W (I W (x7+1)*I W (a1.2.1+0))).toNat)).drop ((I W (x7*I W (a1.2.1+0))).toNat)) x9) (at_ 0 x8 x9))) (I W (x9+1)))))))else(bH.l4 k a1 l3 x2 l5 (I W (x7+1)))
end
def bH.f(k:Nat)(a1:Int×Int×List Int):Option ((Int×Int×List Int)×List Int):=(nY.f (a1.1,a1.2.1,a1.2.2)).bind fun x6=>bif !x6 then(some ((0,0,([]:List Int)),([]:List Int)))else(bH.l0 k a1 ([]:List Int) 0)
theorem bH.calls{w0:World}{k:Nat}{F_:FD}{a1:Int×Int×List Int}{v1_2_:Value}{r:(Int×Int×List Int)×List Int}(hf:(Rs.ah F_).inv w0)(h1_2:Rd (.of (.int .u8)) w0 (Ol (Rs.ah F_).fp w0) v1_2_ a1.2.2)(E:bH.f k a1=some r):
 Calls aa 348 #[pt F_.p,.agg #[ii a1.1,ii a1.2.1,v1_2_]] w0 fun e w'=>∃(u0_2 u1:Value),e= .returned (.tuple #[.agg #[ii r.1.1,ii r.1.2.1,u0_2],u1])∧St (Rs.ah F_).fp w0 w' [.ah F_,.own (.int .u8) 5 u0_2 r.1.2.2,.own (.int .i64) 3 u1 r.2]:=by
 have H:=St.start hf
 unfold bH.f at E
 refine aP (N:=26) (args:=[pt F_.p,.agg #[ii a1.1,ii a1.2.1,v1_2_]]) Tryz.func348 z z j_ ?_
 refine rg (ye (bc (cs:=#[ii a1.1,ii a1.2.1,v1_2_]) H z (fun b1 w H=>ye (cr ra H (fun b2 w H=>va sn (nl (ae (rg (vm (pt F_.p) (vr (cV Tryz.underlying111 z z) (vm (.bool false) (oo z z (bp (l:=[ii a1.1,ii a1.2.1,v1_2_]) jD (H.Gt 1 z) z z z) ?_))))))))))))
 refine dP z z z (E9 H2 H E (fun _ h=>nY.calls (H.arg (H.rd h1_2)) h) (fun x6 E w H=>oo z z (cp z) (vr (pF (.bool (!x6)) z z z) (nl ?_))))
 refine aE E z (fun c8 E=>?_) (fun c8 E=>?_)
 ·refine rg (vr (cf (cs:=[ii 0,ii 0,sn]) pb z) (s_ (cy lA H 2 z z z z z z (fun w H=>va sn (nl (aj ?_))))))
  have H:=H.bB (.int .u8) 5
  have H:=H.bB (.int .i64) 3
  cases E
  exact(aL ⟨.inl z,_,tk0 z ⟨aB z (dL z jD (eG (n:=3) (H.Gt 2 z) z) z (ad ai)),_,_,z,H.fJ 0 3 4 z z z z z z⟩⟩)
 refine aA (ab (rg (vm (pt F_.p) (vr (bp (l:=[ii a1.1,ii a1.2.1,v1_2_]) jD (H.Gt 1 z) z z z) (ye (cm 77 [pt F_.p,.agg #[ii a1.1,ii a1.2.1,v1_2_],sn] H3 Tryz.func372 z z z z (rg (ye (bc (cs:=#[ii a1.1,ii a1.2.1,v1_2_]) H z (fun b3 w H=>va (.pointer none) (nl (rg (vr (az mq z) (vr (av bf z (ak (H.Gt 3 z) z)) (vr (az cS z) (vr (av bf z (ak (H.Gt 3 z) z)) (vm sn (vr (bJ (lP nF z) (v':=ii 0) z) (vr (aO z z) (vr (cf (cs:=[ii a1.1,ii (I W (a1.2.1+0)),sn]) pb z) (vm (pt F_.p) (vr (cf (cs:=[ii a1.1,ii (I W (a1.2.1+0)),sn,pt F_.p,sn]) GK d_) (ye (bc (cs:=#[ii a1.1,ii (I W (a1.2.1+0)),sn,pt F_.p,sn]) H z (fun b4 w H=>?_)))))))))))))))))))))))))
 have H:St _ _ _ [_,_,_,_,_]:=H
 refine va (pt b4) (nl ?_)
 refine cA (fun t w=>∃(k1:Nat)(l1:List Int)(v1:Value)(t1:Fr),k1≤k∧bH.j0 (bH.l2 k1) k1 a1 l1=some r∧t=aU t1 [(4,pt b3),(6,.pointer none),(7,pt b4),(1000000,undef)]∧St (Rs.ah F_).fp w0 w [.ah F_,.blk b1 #[ii a1.1,ii a1.2.1,v1_2_] 88,.blk b2 #[ii 0,ii 0,sn] 88,.blk b3 #[ii a1.1,ii a1.2.1,v1_2_] 88,.blk b4 #[ii a1.1,ii (I W (a1.2.1+0)),v1,pt F_.p,sn] 442,.own (.int .u8) 5 v1 l1]) ?_ ?_
 ·refine rg (vr (az mq z) (vr (av bf z (ak (H.Gt 3 z) z)) (vm (ii 0) (nl (aG ?_)))))
  have H:=H.bB (.int .u8) 5
  refine bx (fun kk t w=>∃(l2:List Int)(x1:Int)(v2:Value)(t2:Fr),kk≤k∧bH.l0 kk a1 l2 x1=some r∧t=aU t2 [(2,sn),(4,pt b3),(6,.pointer none),(7,pt b4),(23,ii a1.1),(24,ii x1),(1000000,undef)]∧St (Rs.ah F_).fp w0 w [.ah F_,.blk b1 #[ii a1.1,ii a1.2.1,v1_2_] 88,.blk b2 #[ii 0,ii 0,sn] 88,.blk b3 #[ii a1.1,ii a1.2.1,v1_2_] 88,.blk b4 #[ii a1.1,ii (I W (a1.2.1+0)),v2,pt F_.p,sn] 442,.own (.int .u8) 5 v2 l2]) k ?_ ?_
  ·exact⟨_,_,_,_,aI _,E,aD ⟨z,z,z,z,z,z,z,acu⟩,H⟩
  rintro kk t w ⟨l2,x1,v2,t2,hk1,E,rfl,H⟩
  obtain⟨k2,rfl⟩|rfl:=ks kk
  rotate_left
  ·cases E
  rw[bH.l0]at E
  refine rg (vr (aZ z z) (nl (ae ?_)))
  refine aE E z (fun c1 E=>?_) (fun c1 E=>?_)
  ·refine aA (ab (ae (aG (rg (vm (ii x1) (va (ii x1) (nl (ae (eZ (ds:=[22]) (fun w=>∃(v':Value)(l':List Int),St (Rs.ah F_).fp w0 w [.ah F_,.blk b1 #[ii a1.1,ii a1.2.1,v1_2_] 88,.blk b2 #[ii 0,ii 0,sn] 88,.blk b3 #[ii a1.1,ii a1.2.1,v1_2_] 88,.blk b4 #[ii a1.1,ii (I W (a1.2.1+0)),v2,pt F_.p,sn] 442,.own (.int .u8) 5 v' l']) bZ H z z ?_)))))))))
   have H:=H.drew
   refine wm 0 z ⟨_,_,H⟩ (pt b4) (wm 1 z ⟨_,_,H⟩ (pt b4) (wg 2 z ⟨_,_,H⟩ (bw z) (wg 3 z ⟨_,_,H⟩ (az cM z) (wg 4 z ⟨_,_,H⟩ (az gI z) (wz 5 z ⟨_,_,H⟩ (fun w ⟨v',l',H⟩=>av bQ z (ak (H.Gt 4 z) z)) (wg 6 z ⟨_,_,H⟩ (az gI z) (wz 7 z ⟨_,_,H⟩ (fun w ⟨v',l',H⟩=>av bQ z (ak (H.Gt 3 z) z)) (wm 8 z ⟨_,_,H⟩ (ii x1) (wg 9 z ⟨_,_,H⟩ (az cS z) (wz 10 z ⟨_,_,H⟩ (fun w ⟨v',l',H⟩=>av bf z (ak (H.Gt 3 z) z)) (wg 11 z ⟨_,_,H⟩ (cF z z) (wm 12 z ⟨_,_,H⟩ (ii x1) (wg 13 z ⟨_,_,H⟩ (aO z z) (wg 14 z ⟨_,_,H⟩ (az cS z) (wz 15 z ⟨_,_,H⟩ (fun w ⟨v',l',H⟩=>av bf z (ak (H.Gt 3 z) z)) (wg 16 z ⟨_,_,H⟩ (cF z z) ?_))))))))))))))))
   obtain⟨⟨g1,g2,g3⟩,E⟩:=ar E
   have p1:(I W (x1*a1.2.1)).toNat≤(I W (I W (x1+1)*a1.2.1)).toNat:=a_
   have p2:(I W (I W (x1+1)*a1.2.1)).toNat≤a1.2.2.length:=a_
   refine wz 17 z ⟨_,_,H⟩ (fun w ⟨v',l',H⟩=>CI aN (H.rd h1_2) z z z g1 g2 g3) ?_
   obtain⟨g4,E⟩:=ar E
   refine wo 18 z (dZ aN H 5 z (Rd.bz (H.rd h1_2) p1 p2) z z a_ u_ (fun v3 w H=>⟨fun _=>⟨_,_,H.ag [0,1,2,3,4,5] z z⟩,wy 19 z (⟨_,_,H.ag [0,1,2,3,4,5] z z⟩) (bw z) (wy 20 z (⟨_,_,H.ag [0,1,2,3,4,5] z z⟩) (az cM z) (wg 21 z ⟨_,_,H.ag [0,1,2,3,4,5] z z⟩ (az gI z) ?_))⟩))
   obtain⟨p3,n1,c2,rfl⟩:=bX (H.Gt 5 z)
   refine wo 22 z (cQ pA H 4 z z z z z (fun w H=>⟨fun h=>(h f_).elim,wd (ab (rg (vm sn (vr (bJ (lP nF z) (v':=ii 0) z) (vm (ii 0) (nl (aG ?_)))))))⟩))
   refine bx (fun kk t w=>∃(t3:Fr),kk≤k2∧bH.l1 kk a1 l2 x1=some r∧t=aU t3 [(2,sn),(4,pt b3),(6,.pointer none),(7,pt b4),(8,ii x1),(23,ii a1.1),(24,ii x1),(49,sn),(50,ii 0),(51,ii 0),(1000000,undef)]∧St (Rs.ah F_).fp w0 w [.ah F_,.blk b1 #[ii a1.1,ii a1.2.1,v1_2_] 88,.blk b2 #[ii 0,ii 0,sn] 88,.blk b3 #[ii a1.1,ii a1.2.1,v1_2_] 88,.blk b4 #[ii a1.1,ii (I W (a1.2.1+0)),(.slice p3 n1 c2),pt F_.p,sn] 442,.own (.int .u8) 5 (.slice p3 n1 c2) (l2++(a1.2.2.take ((I W (I W (x1+1)*a1.2.1)).toNat)).drop ((I W (x1*a1.2.1)).toNat))]) k2 ?_ ?_
   ·exact⟨_,aI _,E,aD ⟨z,z,z,z,z,z,z,z,z,z,z,acu⟩,H⟩
   rintro kk t w ⟨t3,hk2,E,rfl,H⟩
   obtain⟨k3,rfl⟩|rfl:=ks kk
   rotate_left
   ·cases E
   rw[bH.l1]at E
   refine rg (vr (bJ (v':=.bool false) (aZ z z) z) (nl (ae (bS z (bt (aM (aM (bu (aR (ab (aH (vr (aO z z) (vm (ii (I W (x1+1))) (aK ?_))))))))))))))
   exact⟨k3,a_,_,_,_,_,a_,E,aD ⟨z,z,z,z,z,z,z,acu⟩,H⟩
  refine bt (aM (aM (bu ?_)))
  exact⟨k2,_,_,_,a_,E,aD ⟨z,z,z,z,acu⟩,H⟩
 rintro t w ⟨k1,l1,v1,t1,hk3,E,rfl,H⟩
 unfold bH.j0 at E
 refine rg (vm (pt b4) (vr (az cS z) (vr (av bf z (ak (H.Gt 3 z) z)) (ye (cm 36 [pt b4,ii a1.2.1] H6 Tryz.func379 z z z z (xR (ae (xP (ab (rg (vm (ii a1.2.1) (vm (ii 0) (nl (aG ?_))))))))))))))
 have H:=H.bB (.int .i64) 3
 refine bx (fun kk t w=>∃(l3 l4:List Int)(x2:Int)(v4:Value)(t4:Fr),kk≤k1∧bH.l2 kk a1 l3 l4 x2=some r∧t=aU t4 [(0,pt b4),(6,ii a1.2.1),(7,ii x2),(1000000,undef)]∧St (Rs.ah F_).fp w0 w [.ah F_,.blk b1 #[ii a1.1,ii a1.2.1,v1_2_] 88,.blk b2 #[ii 0,ii 0,sn] 88,.blk b3 #[ii a1.1,ii a1.2.1,v1_2_] 88,.blk b4 #[ii a1.1,ii (I W (a1.2.1+0)),v1,pt F_.p,v4] 442,.own (.int .u8) 5 v1 l3,.own (.int .i64) 3 v4 l4]) k1 ?_ ?_
 ·exact⟨_,_,_,_,_,aI _,E,aD ⟨z,z,z,z,acu⟩,H⟩
 rintro kk t w ⟨l3,l4,x2,v4,t4,hk4,E,rfl,H⟩
 obtain⟨k4,rfl⟩|rfl:=ks kk
 rotate_left
 ·cases E
 rw[bH.l2]at E
 refine rg (vr (aZ z z) (nl (ae ?_)))
 refine aE E z (fun c3 E=>?_) (fun c3 E=>?_)
 ·refine aA (ab (ae (aG (rg (vm (ii x2) (va (ii x2) (nl (rg (vm (pt b4) (vr (bw z) (vr (az qZ z) (vr (av eU z (ak (H.Gt 4 z) z)) (vr (aY gK (ao (H.Gt 6 z)) z) (va (ii (l4.length:Int)) (nl (aG ?_))))))))))))))))
  refine bx (fun kk t w=>∃(x3:Int)(t5:Fr),kk≤k4∧bH.l3 kk a1 l3 l4 x2 x3=some r∧t=aU t5 [(0,pt b4),(4,ii x2),(5,ii x3),(6,ii a1.2.1),(7,ii x2),(1000000,undef)]∧St (Rs.ah F_).fp w0 w [.ah F_,.blk b1 #[ii a1.1,ii a1.2.1,v1_2_] 88,.blk b2 #[ii 0,ii 0,sn] 88,.blk b3 #[ii a1.1,ii a1.2.1,v1_2_] 88,.blk b4 #[ii a1.1,ii (I W (a1.2.1+0)),v1,pt F_.p,v4] 442,.own (.int .u8) 5 v1 l3,.own (.int .i64) 3 v4 l4]) k4 ?_ ?_
  ·exact⟨_,_,aI _,E,aD ⟨z,z,z,z,z,z,acu⟩,H⟩
  rintro kk t w ⟨x3,t5,hk5,E,rfl,H⟩
  obtain⟨k5,rfl⟩|rfl:=ks kk
  rotate_left
  ·cases E
  rw[bH.l3]at E
  refine ae (rg (vm (ii x3) (vm (pt b4) (vr (bw z) (vr (az cM z) (vr (az mq z) (vr (av bf z (ak (H.Gt 4 z) z)) (vr (aZ z z) (nl ?_)))))))))
  refine aE E z (fun c4 E=>?_) (fun c4 E=>?_)
  ·refine aA (ab (ae (aG (rg (vm (pt b4) (vm (ii x3) (ye (cm 34 [pt b4,ii x3] ly Tryz.func381 z z z z (rg (va sn (nl (ae (cd (ds:=[]) bZ H z z ?_)))))))))))))
   have H:=H.drew
   refine wm 0 z H (pt b4) (wg 1 z H (bw z) (wg 2 z H (az cM z) (wg 3 z H (az gI z) (wz 4 z H (fun w H=>av bQ z (ak (H.Gt 4 z) z)) (wm 5 z H (ii x3) (wm 6 z H (pt b4) (wg 7 z H (bw z) (wg 8 z H (az cM z) (wg 9 z H (az cS z) (wz 10 z H (fun w H=>av bf z (ak (H.Gt 4 z) z)) (wg 11 z H (cF z z) (wm 12 z H (ii x3) (wg 13 z H (aO z z) (wm 14 z H (pt b4) (wg 15 z H (bw z) (wg 16 z H (az cM z) (wg 17 z H (az cS z) (wz 18 z H (fun w H=>av bf z (ak (H.Gt 4 z) z)) (wg 19 z H (cF z z) (wm 20 z H (ii x3) (wg 21 z H (aO z z) (wm 22 z H (pt b4) (wg 23 z H (bw z) (wg 24 z H (az cM z) (wg 25 z H (az cS z) (wz 26 z H (fun w H=>av bf z (ak (H.Gt 4 z) z)) (wg 27 z H (cF z z) ?_)))))))))))))))))))))))))))
   obtain⟨⟨g5,g6,g7,g8⟩,E⟩:=ar E
   have p4:(I W (x3*I W (a1.2.1+0))).toNat≤(I W (I W (x3+1)*I W (a1.2.1+0))).toNat:=a_
   have p5:(I W (I W (x3+1)*I W (a1.2.1+0))).toNat≤(I W (I W (x3+1)*I W (a1.2.1+0))).toNat:=a_
   have p6:(I W (I W (x3+1)*I W (a1.2.1+0))).toNat≤l3.length:=a_
   refine wz 28 z H (fun w H=>kW aN (ao (H.Gt 5 z)) z z z z g5 g6 g7 g8) (wg 29 z H (sg (cq v1 ((I W (x3*I W (a1.2.1+0))).toNat) ((I W (I W (x3+1)*I W (a1.2.1+0))).toNat) ((I W (I W (x3+1)*I W (a1.2.1+0))).toNat) 1) z) (wd (ab (aj (⟨.inl z,cq v1 ((I W (x3*I W (a1.2.1+0))).toNat) ((I W (I W (x3+1)*I W (a1.2.1+0))).toNat) ((I W (I W (x3+1)*I W (a1.2.1+0))).toNat) 1,tk0 z ⟨ba z (ad ai) z,(vm (ii x2) ?_)⟩⟩)))))
   obtain⟨⟨g9,g10⟩,E⟩:=ar E
   refine vr (bo aN (Rd.cq (ao (H.Gt 5 z)) p4 p5 p6) z z g9 g10) (vr (bq bC (Rd.cq (ao (H.Gt 5 z)) p4 p5 p6) g9 g10 z) (vr (cx z z) (nl ?_)))
   refine aE E z (fun c5 E=>?_) (fun c5 E=>?_)
   ·refine rg (vm (pt b4) (vm (ii x3) (vm (ii x2) (ye (cm 106 [pt b4,ii x3,ii x2] H7 Tryz.func382 z z z z (rg (vm (pt b4) (vr (bw z) (vr (az qZ z) (vr (av eU z (ak (H.Gt 4 z) z)) (vr (aY gK (ao (H.Gt 6 z)) z) (va (ii (l4.length:Int)) (nl (rg (vm (pt b4) (vm (ii x3) (vm (ii (l4.length:Int)) (ye (cm 23 [pt b4,ii x3,ii (l4.length:Int)] H8 Tryz.func383 z z z z (rg (vm (pt b4) (vm (ii x3) (ye (cm 34 [pt b4,ii x3] ly Tryz.func381 z z z z (rg (va sn (nl (ae (cd (ds:=[]) bZ H z z ?_)))))))))))))))))))))))))))))
    have H:=H.drew
    refine wm 0 z H (pt b4) (wg 1 z H (bw z) (wg 2 z H (az cM z) (wg 3 z H (az gI z) (wz 4 z H (fun w H=>av bQ z (ak (H.Gt 4 z) z)) (wm 5 z H (ii x3) (wm 6 z H (pt b4) (wg 7 z H (bw z) (wg 8 z H (az cM z) (wg 9 z H (az cS z) (wz 10 z H (fun w H=>av bf z (ak (H.Gt 4 z) z)) (wg 11 z H (cF z z) (wm 12 z H (ii x3) (wg 13 z H (aO z z) (wm 14 z H (pt b4) (wg 15 z H (bw z) (wg 16 z H (az cM z) (wg 17 z H (az cS z) (wz 18 z H (fun w H=>av bf z (ak (H.Gt 4 z) z)) (wg 19 z H (cF z z) (wm 20 z H (ii x3) (wg 21 z H (aO z z) (wm 22 z H (pt b4) (wg 23 z H (bw z) (wg 24 z H (az cM z) (wg 25 z H (az cS z) (wz 26 z H (fun w H=>av bf z (ak (H.Gt 4 z) z)) (wg 27 z H (cF z z) ?_)))))))))))))))))))))))))))
    obtain⟨⟨g11,g12,g13,g14⟩,E⟩:=ar E
    have p7:(I W (x3*I W (a1.2.1+0))).toNat≤(I W (I W (x3+1)*I W (a1.2.1+0))).toNat:=a_
    have p8:(I W (I W (x3+1)*I W (a1.2.1+0))).toNat≤(I W (I W (x3+1)*I W (a1.2.1+0))).toNat:=a_
    have p9:(I W (I W (x3+1)*I W (a1.2.1+0))).toNat≤l3.length:=a_
    refine wz 28 z H (fun w H=>kW aN (ao (H.Gt 5 z)) z z z z g11 g12 g13 g14) (wg 29 z H (sg (cq v1 ((I W (x3*I W (a1.2.1+0))).toNat) ((I W (I W (x3+1)*I W (a1.2.1+0))).toNat) ((I W (I W (x3+1)*I W (a1.2.1+0))).toNat) 1) z) (wd (ab (aj (⟨.inl z,cq v1 ((I W (x3*I W (a1.2.1+0))).toNat) ((I W (I W (x3+1)*I W (a1.2.1+0))).toNat) ((I W (I W (x3+1)*I W (a1.2.1+0))).toNat) 1,tk0 z ⟨ba z (ad ai) z,vm (pt b4) (vm (ii (l4.length:Int)) (ye (cm 34 [pt b4,ii (l4.length:Int)] ly Tryz.func381 z z z z (rg (va sn (nl (ae (cd (ds:=[]) bZ H z z ?_))))))))⟩⟩)))))
    have H:=H.drew
    refine wm 0 z H (pt b4) (wg 1 z H (bw z) (wg 2 z H (az cM z) (wg 3 z H (az gI z) (wz 4 z H (fun w H=>av bQ z (ak (H.Gt 4 z) z)) (wm 5 z H (ii (l4.length:Int)) (wm 6 z H (pt b4) (wg 7 z H (bw z) (wg 8 z H (az cM z) (wg 9 z H (az cS z) (wz 10 z H (fun w H=>av bf z (ak (H.Gt 4 z) z)) (wg 11 z H (cF z z) (wm 12 z H (ii (l4.length:Int)) (wg 13 z H (aO z z) (wm 14 z H (pt b4) (wg 15 z H (bw z) (wg 16 z H (az cM z) (wg 17 z H (az cS z) (wz 18 z H (fun w H=>av bf z (ak (H.Gt 4 z) z)) (wg 19 z H (cF z z) (wm 20 z H (ii (l4.length:Int)) (wg 21 z H (aO z z) (wm 22 z H (pt b4) (wg 23 z H (bw z) (wg 24 z H (az cM z) (wg 25 z H (az cS z) (wz 26 z H (fun w H=>av bf z (ak (H.Gt 4 z) z)) (wg 27 z H (cF z z) ?_)))))))))))))))))))))))))))
    obtain⟨⟨g15,g16,g17,g18⟩,E⟩:=ar E
    have p10:(I W ((l4.length:Int)*I W (a1.2.1+0))).toNat≤(I W (I W ((l4.length:Int)+1)*I W (a1.2.1+0))).toNat:=a_
    have p11:(I W (I W ((l4.length:Int)+1)*I W (a1.2.1+0))).toNat≤(I W (I W ((l4.length:Int)+1)*I W (a1.2.1+0))).toNat:=a_
    have p12:(I W (I W ((l4.length:Int)+1)*I W (a1.2.1+0))).toNat≤l3.length:=a_
    refine wz 28 z H (fun w H=>kW aN (ao (H.Gt 5 z)) z z z z g15 g16 g17 g18) (wg 29 z H (sg (cq v1 ((I W ((l4.length:Int)*I W (a1.2.1+0))).toNat) ((I W (I W ((l4.length:Int)+1)*I W (a1.2.1+0))).toNat) ((I W (I W ((l4.length:Int)+1)*I W (a1.2.1+0))).toNat) 1) z) (wd (ab (aj (⟨.inl z,cq v1 ((I W ((l4.length:Int)*I W (a1.2.1+0))).toNat) ((I W (I W ((l4.length:Int)+1)*I W (a1.2.1+0))).toNat) ((I W (I W ((l4.length:Int)+1)*I W (a1.2.1+0))).toNat) 1,tk0 z ⟨ba z (ad ai) z,va (cq v1 ((I W (x3*I W (a1.2.1+0))).toNat) ((I W (I W (x3+1)*I W (a1.2.1+0))).toNat) ((I W (I W (x3+1)*I W (a1.2.1+0))).toNat) 1) (va (cq v1 ((I W ((l4.length:Int)*I W (a1.2.1+0))).toNat) ((I W (I W ((l4.length:Int)+1)*I W (a1.2.1+0))).toNat) ((I W (I W ((l4.length:Int)+1)*I W (a1.2.1+0))).toNat) 1) (nl (rg (vm (cq v1 ((I W (x3*I W (a1.2.1+0))).toNat) ((I W (I W (x3+1)*I W (a1.2.1+0))).toNat) ((I W (I W (x3+1)*I W (a1.2.1+0))).toNat) 1) ?_))))⟩⟩)))))
    refine ye (YM nD H E (fun _ h=>dM.calls (H.own 5 z (Rd.cq (ao (H.Gt 5 z)) p7 p8 p9)) h) (fun x4 E v5 w H=>va v5 (nl (rg (vm (cq v1 ((I W (x3*I W (a1.2.1+0))).toNat) ((I W (I W (x3+1)*I W (a1.2.1+0))).toNat) ((I W (I W (x3+1)*I W (a1.2.1+0))).toNat) 1) (vm (cq v1 ((I W ((l4.length:Int)*I W (a1.2.1+0))).toNat) ((I W (I W ((l4.length:Int)+1)*I W (a1.2.1+0))).toNat) ((I W (I W ((l4.length:Int)+1)*I W (a1.2.1+0))).toNat) 1) (ye (xW a_ a_ (by simpa using p9) aN H 5 z (Rd.cq (ao (H.Gt 5 z)) p10 p11 p12) z z (fun w H=>nl (aH (vm (cq v1 ((I W ((l4.length:Int)*I W (a1.2.1+0))).toNat) ((I W (I W ((l4.length:Int)+1)*I W (a1.2.1+0))).toNat) ((I W (I W ((l4.length:Int)+1)*I W (a1.2.1+0))).toNat) 1) (vm v5 (ye (xW a_ a_ (by first|(rw[mj _ a_];exact p12)|simpa using p12) aN H 5 z (ao (H.Gt 7 z)) z z (fun w H=>aK (⟨.inr z,.tuple #[],tk0 z ⟨ba z ai z,nl (ae (cd (ds:=[]) bZ H z z ?_))⟩⟩))))))))))))))))
    have H:=H.drew
    refine wm 0 z H (pt b4) (wg 1 z H (bw z) (wg 2 z H (az vx z) (wz 3 z H (fun w H=>av dk z (ak (H.Gt 4 z) z)) (wm 4 z H (pt b4) (wm 5 z H (ii (l4.length:Int)) (wm 7 z H (ii x2) (wo 6 z (cm 34 [pt b4,ii (l4.length:Int)] ly Tryz.func381 z z z z (rg (va sn (nl (ae (cd (ds:=[]) bZ H z z ?_)))))))))))))
    have H:=H.drew
    refine wm 0 z H (pt b4) (wg 1 z H (bw z) (wg 2 z H (az cM z) (wg 3 z H (az gI z) (wz 4 z H (fun w H=>av bQ z (ak (H.Gt 4 z) z)) (wm 5 z H (ii (l4.length:Int)) (wm 6 z H (pt b4) (wg 7 z H (bw z) (wg 8 z H (az cM z) (wg 9 z H (az cS z) (wz 10 z H (fun w H=>av bf z (ak (H.Gt 4 z) z)) (wg 11 z H (cF z z) (wm 12 z H (ii (l4.length:Int)) (wg 13 z H (aO z z) (wm 14 z H (pt b4) (wg 15 z H (bw z) (wg 16 z H (az cM z) (wg 17 z H (az cS z) (wz 18 z H (fun w H=>av bf z (ak (H.Gt 4 z) z)) (wg 19 z H (cF z z) (wm 20 z H (ii (l4.length:Int)) (wg 21 z H (aO z z) (wm 22 z H (pt b4) (wg 23 z H (bw z) (wg 24 z H (az cM z) (wg 25 z H (az cS z) (wz 26 z H (fun w H=>av bf z (ak (H.Gt 4 z) z)) (wg 27 z H (cF z z) ?_)))))))))))))))))))))))))))
    obtain⟨⟨g19,g20,g21,g22⟩,E⟩:=ar E
    have p13:(I W ((l4.length:Int)*I W (a1.2.1+0))).toNat≤(I W (I W ((l4.length:Int)+1)*I W (a1.2.1+0))).toNat:=a_
    have p14:(I W (I W ((l4.length:Int)+1)*I W (a1.2.1+0))).toNat≤(I W (I W ((l4.length:Int)+1)*I W (a1.2.1+0))).toNat:=a_
    have p15:(I W (I W ((l4.length:Int)+1)*I W (a1.2.1+0))).toNat≤(cB ((I W ((l4.length:Int)*I W (a1.2.1+0))).toNat) (((I W (I W ((l4.length:Int)+1)*I W (a1.2.1+0))).toNat)-((I W ((l4.length:Int)*I W (a1.2.1+0))).toNat)) x4 (cB ((I W (x3*I W (a1.2.1+0))).toNat) (((I W (I W (x3+1)*I W (a1.2.1+0))).toNat)-((I W (x3*I W (a1.2.1+0))).toNat)) ((l3.take ((I W (I W ((l4.length:Int)+1)*I W (a1.2.1+0))).toNat)).drop ((I W ((l4.length:Int)*I W (a1.2.1+0))).toNat)) l3)).length:=a_
    refine wz 28 z H (fun w H=>kW aN (ao (H.Gt 5 z)) z z z z g19 g20 g21 g22) (wg 29 z H (sg (cq v1 ((I W ((l4.length:Int)*I W (a1.2.1+0))).toNat) ((I W (I W ((l4.length:Int)+1)*I W (a1.2.1+0))).toNat) ((I W (I W ((l4.length:Int)+1)*I W (a1.2.1+0))).toNat) 1) z) (wd (ab (aj (⟨.inl z,cq v1 ((I W ((l4.length:Int)*I W (a1.2.1+0))).toNat) ((I W (I W ((l4.length:Int)+1)*I W (a1.2.1+0))).toNat) ((I W (I W ((l4.length:Int)+1)*I W (a1.2.1+0))).toNat) 1,tk0 z ⟨ba z (ad ai) z,(⟨fun _=>H.ag [0,1,2,3,4,5,6,7] z z,?_⟩)⟩⟩)))))
    obtain⟨⟨g23,g24⟩,E⟩:=ar E
    refine wz 8 z (H.ag [0,1,2,3,4,5,6,7] z z) (fun w H=>bo aN (Rd.cq (ao (H.Gt 5 z)) p13 p14 p15) z z g23 g24) (wz 9 z (H.ag [0,1,2,3,4,5,6,7] z z) (fun w H=>bq bC (Rd.cq (ao (H.Gt 5 z)) p13 p14 p15) g23 g24 z) ?_)
    refine wo 10 z (YL qX H 0 E z (fun _ h=>fN.calls (H.Gt 0 z) h) (fun x5 E w H=>⟨fun _=>H.ag [0,1,2,3,4,5,6,7] z z,wg 11 z (H.ag [0,1,2,3,4,5,6,7] z z) cz (wg 12 z (H.ag [0,1,2,3,4,5,6,7] z z) (aX z z) (wg 13 z (H.ag [0,1,2,3,4,5,6,7] z z) (aX z z) (wg 14 z (H.ag [0,1,2,3,4,5,6,7] z z) (sg (iu x5.1) z) (wg 15 z (H.ag [0,1,2,3,4,5,6,7] z z) (sg (.bool x5.2) z) (wd (ab (ae (eZ (ds:=[]) (fun w=>∃l':List Int,l'.length=(cB ((I W ((l4.length:Int)*I W (a1.2.1+0))).toNat) (((I W (I W ((l4.length:Int)+1)*I W (a1.2.1+0))).toNat)-((I W ((l4.length:Int)*I W (a1.2.1+0))).toNat)) x4 (cB ((I W (x3*I W (a1.2.1+0))).toNat) (((I W (I W (x3+1)*I W (a1.2.1+0))).toNat)-((I W (x3*I W (a1.2.1+0))).toNat)) ((l3.take ((I W (I W ((l4.length:Int)+1)*I W (a1.2.1+0))).toNat)).drop ((I W ((l4.length:Int)*I W (a1.2.1+0))).toNat)) l3)).length∧St (Rs.ah F_).fp w0 w [.ah F_,.blk b1 #[ii a1.1,ii a1.2.1,v1_2_] 88,.blk b2 #[ii 0,ii 0,sn] 88,.blk b3 #[ii a1.1,ii a1.2.1,v1_2_] 88,.blk b4 #[ii a1.1,ii (I W (a1.2.1+0)),v1,pt F_.p,v4] 442,.own (.int .u8) 5 v1 l',.own (.int .i64) 3 v4 l4,.own (.int .u8) 5 v5 x4]) bZ H z z ?_))))))))⟩))
    have H:=H.drew
    refine wm 0 z ⟨_,z,H⟩ (pt b4) (wm 1 z ⟨_,z,H⟩ (ii (l4.length:Int)) (wm 3 z ⟨_,z,H⟩ (pt b4) (wg 4 z ⟨_,z,H⟩ (bw z) (wg 5 z ⟨_,z,H⟩ (az vx z) (wz 6 z ⟨_,z,H⟩ (fun w ⟨l',e',H⟩=>av dk z (ak (H.Gt 4 z) z)) (wm 7 z ⟨_,z,H⟩ (iu x5.1) (wm 8 z ⟨_,z,H⟩ (pt b4) (wm 9 z ⟨_,z,H⟩ (ii (l4.length:Int)) (wo 2 z (cm 34 [pt b4,ii (l4.length:Int)] ly Tryz.func381 z z z z (rg (va sn (nl (ae (cd (ds:=[]) bZ H z z ?_)))))))))))))))
    have H:=H.drew
    refine wm 0 z H (pt b4) (wg 1 z H (bw z) (wg 2 z H (az cM z) (wg 3 z H (az gI z) (wz 4 z H (fun w H=>av bQ z (ak (H.Gt 4 z) z)) (wm 5 z H (ii (l4.length:Int)) (wm 6 z H (pt b4) (wg 7 z H (bw z) (wg 8 z H (az cM z) (wg 9 z H (az cS z) (wz 10 z H (fun w H=>av bf z (ak (H.Gt 4 z) z)) (wg 11 z H (cF z z) (wm 12 z H (ii (l4.length:Int)) (wg 13 z H (aO z z) (wm 14 z H (pt b4) (wg 15 z H (bw z) (wg 16 z H (az cM z) (wg 17 z H (az cS z) (wz 18 z H (fun w H=>av bf z (ak (H.Gt 4 z) z)) (wg 19 z H (cF z z) (wm 20 z H (ii (l4.length:Int)) (wg 21 z H (aO z z) (wm 22 z H (pt b4) (wg 23 z H (bw z) (wg 24 z H (az cM z) (wg 25 z H (az cS z) (wz 26 z H (fun w H=>av bf z (ak (H.Gt 4 z) z)) (wg 27 z H (cF z z) ?_)))))))))))))))))))))))))))
    obtain⟨⟨g25,g26,g27,g28⟩,E⟩:=ar E
    have p16:(I W ((l4.length:Int)*I W (a1.2.1+0))).toNat≤(I W (I W ((l4.length:Int)+1)*I W (a1.2.1+0))).toNat:=a_
    have p17:(I W (I W ((l4.length:Int)+1)*I W (a1.2.1+0))).toNat≤(I W (I W ((l4.length:Int)+1)*I W (a1.2.1+0))).toNat:=a_
    have p18:(I W (I W ((l4.length:Int)+1)*I W (a1.2.1+0))).toNat≤(cB ((I W ((l4.length:Int)*I W (a1.2.1+0))).toNat) (((I W (I W ((l4.length:Int)+1)*I W (a1.2.1+0))).toNat)-((I W ((l4.length:Int)*I W (a1.2.1+0))).toNat)) x4 (cB ((I W (x3*I W (a1.2.1+0))).toNat) (((I W (I W (x3+1)*I W (a1.2.1+0))).toNat)-((I W (x3*I W (a1.2.1+0))).toNat)) ((l3.take ((I W (I W ((l4.length:Int)+1)*I W (a1.2.1+0))).toNat)).drop ((I W ((l4.length:Int)*I W (a1.2.1+0))).toNat)) l3)).length:=a_
    refine wz 28 z H (fun w H=>kW aN (ao (H.Gt 5 z)) z z z z g25 g26 g27 g28) (wg 29 z H (sg (cq v1 ((I W ((l4.length:Int)*I W (a1.2.1+0))).toNat) ((I W (I W ((l4.length:Int)+1)*I W (a1.2.1+0))).toNat) ((I W (I W ((l4.length:Int)+1)*I W (a1.2.1+0))).toNat) 1) z) (wd (ab (aj (⟨.inl z,cq v1 ((I W ((l4.length:Int)*I W (a1.2.1+0))).toNat) ((I W (I W ((l4.length:Int)+1)*I W (a1.2.1+0))).toNat) ((I W (I W ((l4.length:Int)+1)*I W (a1.2.1+0))).toNat) 1,tk0 z ⟨ba z (ad ai) z,(⟨fun _=>⟨_,z,H.ag [0,1,2,3,4,5,6,7] z z⟩,wo 10 z (cm 34 [pt b4,ii (l4.length:Int)] ly Tryz.func381 z z z z (rg (va sn (nl (ae (cd (ds:=[]) bZ H z z ?_))))))⟩)⟩⟩)))))
    have H:=H.drew
    refine wm 0 z H (pt b4) (wg 1 z H (bw z) (wg 2 z H (az cM z) (wg 3 z H (az gI z) (wz 4 z H (fun w H=>av bQ z (ak (H.Gt 4 z) z)) (wm 5 z H (ii (l4.length:Int)) (wm 6 z H (pt b4) (wg 7 z H (bw z) (wg 8 z H (az cM z) (wg 9 z H (az cS z) (wz 10 z H (fun w H=>av bf z (ak (H.Gt 4 z) z)) (wg 11 z H (cF z z) (wm 12 z H (ii (l4.length:Int)) (wg 13 z H (aO z z) (wm 14 z H (pt b4) (wg 15 z H (bw z) (wg 16 z H (az cM z) (wg 17 z H (az cS z) (wz 18 z H (fun w H=>av bf z (ak (H.Gt 4 z) z)) (wg 19 z H (cF z z) (wm 20 z H (ii (l4.length:Int)) (wg 21 z H (aO z z) (wm 22 z H (pt b4) (wg 23 z H (bw z) (wg 24 z H (az cM z) (wg 25 z H (az cS z) (wz 26 z H (fun w H=>av bf z (ak (H.Gt 4 z) z)) (wg 27 z H (cF z z) ?_)))))))))))))))))))))))))))
    obtain⟨⟨g29,g30,g31,g32⟩,E⟩:=ar E
    have p19:(I W ((l4.length:Int)*I W (a1.2.1+0))).toNat≤(I W (I W ((l4.length:Int)+1)*I W (a1.2.1+0))).toNat:=a_
    have p20:(I W (I W ((l4.length:Int)+1)*I W (a1.2.1+0))).toNat≤(I W (I W ((l4.length:Int)+1)*I W (a1.2.1+0))).toNat:=a_
    have p21:(I W (I W ((l4.length:Int)+1)*I W (a1.2.1+0))).toNat≤(cB ((I W ((l4.length:Int)*I W (a1.2.1+0))).toNat) (((I W (I W ((l4.length:Int)+1)*I W (a1.2.1+0))).toNat)-((I W ((l4.length:Int)*I W (a1.2.1+0))).toNat)) x4 (cB ((I W (x3*I W (a1.2.1+0))).toNat) (((I W (I W (x3+1)*I W (a1.2.1+0))).toNat)-((I W (x3*I W (a1.2.1+0))).toNat)) ((l3.take ((I W (I W ((l4.length:Int)+1)*I W (a1.2.1+0))).toNat)).drop ((I W ((l4.length:Int)*I W (a1.2.1+0))).toNat)) l3)).length:=a_
    refine wz 28 z H (fun w H=>kW aN (ao (H.Gt 5 z)) z z z z g29 g30 g31 g32) (wg 29 z H (sg (cq v1 ((I W ((l4.length:Int)*I W (a1.2.1+0))).toNat) ((I W (I W ((l4.length:Int)+1)*I W (a1.2.1+0))).toNat) ((I W (I W ((l4.length:Int)+1)*I W (a1.2.1+0))).toNat) 1) z) (wd (ab (aj (⟨.inl z,cq v1 ((I W ((l4.length:Int)*I W (a1.2.1+0))).toNat) ((I W (I W ((l4.length:Int)+1)*I W (a1.2.1+0))).toNat) ((I W (I W ((l4.length:Int)+1)*I W (a1.2.1+0))).toNat) 1,tk0 z ⟨ba z (ad ai) z,(⟨fun _=>⟨_,z,H.ag [0,1,2,3,4,5,6,7] z z⟩,?_⟩)⟩⟩)))))
    refine wo 11 z (YN ph H 0 E z (fun _ h=>gn.calls (H.Gt 0 z) (H.cb 5 0 z z z (Rd.cq (ao (H.Gt 5 z)) p19 p20 p21)) h) (fun x7 E v6 w H=>⟨fun _=>⟨_,z,H.ag [0,1,2,3,4,5,6,7] z z⟩,?_⟩))
    have H:St _ _ _ [_,_,_,_,_,_,_,_,_]:=H
    refine wo 12 z (xW a_ a_ (by simpa using p18) aN H 5 z (ao (H.Gt 8 z)) z z (fun w H=>⟨fun _=>⟨_,mj _ a_,H.ag [0,1,2,3,4,5,6,7] z z⟩,wd (ab ?_)⟩))
    refine cA (fun t w=>∃(k6:Nat)(l5:List Int)(t6:Fr),k6≤k5∧bH.j1 (bH.l2 k6) k6 a1 l4 x2 l5=some r∧t=aU t6 [(0,pt b4),(2,ii x2),(1000000,undef)]∧St (Rs.ah F_).fp w0 w [.ah F_,.blk b1 #[ii a1.1,ii a1.2.1,v1_2_] 88,.blk b2 #[ii 0,ii 0,sn] 88,.blk b3 #[ii a1.1,ii a1.2.1,v1_2_] 88,.blk b4 #[ii a1.1,ii (I W (a1.2.1+0)),v1,pt F_.p,v4] 442,.own (.int .u8) 5 v1 l5,.own (.int .i64) 3 v4 l4,.own (.int .u8) 5 v5 x4,.own (.int .u8) 5 v6 x7]) ?_ ?_
    ·refine rg (vm (pt b4) (vr (bw z) (vr (az cM z) (vr (az mq z) (vr (av bf z (ak (H.Gt 4 z) z)) (vm (ii 0) (nl (aG ?_))))))))
     refine bx (fun kk t w=>∃(l6:List Int)(x8:Int)(t7:Fr),kk≤k5∧bH.l4 kk a1 l4 x2 l6 x8=some r∧t=aU t7 [(0,pt b4),(2,ii x2),(6,ii (l4.length:Int)),(53,ii a1.1),(54,ii x8),(1000000,undef)]∧St (Rs.ah F_).fp w0 w [.ah F_,.blk b1 #[ii a1.1,ii a1.2.1,v1_2_] 88,.blk b2 #[ii 0,ii 0,sn] 88,.blk b3 #[ii a1.1,ii a1.2.1,v1_2_] 88,.blk b4 #[ii a1.1,ii (I W (a1.2.1+0)),v1,pt F_.p,v4] 442,.own (.int .u8) 5 v1 l6,.own (.int .i64) 3 v4 l4,.own (.int .u8) 5 v5 x4,.own (.int .u8) 5 v6 x7]) k5 ?_ ?_
     ·exact⟨_,_,_,aI _,E,aD ⟨z,z,z,z,z,z,acu⟩,H⟩
     rintro kk t w ⟨l6,x8,t7,hk6,E,rfl,H⟩
     obtain⟨k7,rfl⟩|rfl:=ks kk
     rotate_left
     ·cases E
     rw[bH.l4]at E
     refine rg (vr (aZ z z) (nl (ae ?_)))
     refine aE E z (fun c6 E=>?_) (fun c6 E=>?_)
     ·refine aA (ab (ae (aG (rg (vm (ii x8) (va (ii x8) (nl (rg (vm (pt b4) (vm (ii x8) (ye (cm 34 [pt b4,ii x8] ly Tryz.func381 z z z z (rg (va sn (nl (ae (cd (ds:=[]) bZ H z z ?_)))))))))))))))))
      have H:=H.drew
      refine wm 0 z H (pt b4) (wg 1 z H (bw z) (wg 2 z H (az cM z) (wg 3 z H (az gI z) (wz 4 z H (fun w H=>av bQ z (ak (H.Gt 4 z) z)) (wm 5 z H (ii x8) (wm 6 z H (pt b4) (wg 7 z H (bw z) (wg 8 z H (az cM z) (wg 9 z H (az cS z) (wz 10 z H (fun w H=>av bf z (ak (H.Gt 4 z) z)) (wg 11 z H (cF z z) (wm 12 z H (ii x8) (wg 13 z H (aO z z) (wm 14 z H (pt b4) (wg 15 z H (bw z) (wg 16 z H (az cM z) (wg 17 z H (az cS z) (wz 18 z H (fun w H=>av bf z (ak (H.Gt 4 z) z)) (wg 19 z H (cF z z) (wm 20 z H (ii x8) (wg 21 z H (aO z z) (wm 22 z H (pt b4) (wg 23 z H (bw z) (wg 24 z H (az cM z) (wg 25 z H (az cS z) (wz 26 z H (fun w H=>av bf z (ak (H.Gt 4 z) z)) (wg 27 z H (cF z z) ?_)))))))))))))))))))))))))))
      obtain⟨⟨g33,g34,g35,g36⟩,E⟩:=ar E
      have p22:(I W (x8*I W (a1.2.1+0))).toNat≤(I W (I W (x8+1)*I W (a1.2.1+0))).toNat:=a_
      have p23:(I W (I W (x8+1)*I W (a1.2.1+0))).toNat≤(I W (I W (x8+1)*I W (a1.2.1+0))).toNat:=a_
      have p24:(I W (I W (x8+1)*I W (a1.2.1+0))).toNat≤l6.length:=a_
      refine wz 28 z H (fun w H=>kW aN (ao (H.Gt 5 z)) z z z z g33 g34 g35 g36) (wg 29 z H (sg (cq v1 ((I W (x8*I W (a1.2.1+0))).toNat) ((I W (I W (x8+1)*I W (a1.2.1+0))).toNat) ((I W (I W (x8+1)*I W (a1.2.1+0))).toNat) 1) z) (wd (ab (aj (⟨.inl z,cq v1 ((I W (x8*I W (a1.2.1+0))).toNat) ((I W (I W (x8+1)*I W (a1.2.1+0))).toNat) ((I W (I W (x8+1)*I W (a1.2.1+0))).toNat) 1,tk0 z ⟨ba z (ad ai) z,(vm (ii x2) ?_)⟩⟩)))))
      obtain⟨⟨g37,g38⟩,E⟩:=ar E
      refine vr (bo aN (Rd.cq (ao (H.Gt 5 z)) p22 p23 p24) z z g37 g38) (vr (bq bC (Rd.cq (ao (H.Gt 5 z)) p22 p23 p24) g37 g38 z) (va (iu (at_ 0 ((l6.take ((I W (I W (x8+1)*I W (a1.2.1+0))).toNat)).drop ((I W (x8*I W (a1.2.1+0))).toNat)) x2)) (nl ?_)))
      refine cA (fun t w=>∃(k8:Nat)(x9:Bool)(t8:Fr),k8≤k7∧bH.j2 (bH.l4 k8) (bH.l5 k8) k8 a1 l4 x2 l6 x8 x9=some r∧t=aU t8 [(0,pt b4),(2,ii x2),(6,ii (l4.length:Int)),(9,ii x8),(10,iu (at_ 0 ((l6.take ((I W (I W (x8+1)*I W (a1.2.1+0))).toNat)).drop ((I W (x8*I W (a1.2.1+0))).toNat)) x2)),(53,ii a1.1),(54,ii x8),(69,.bool x9),(1000000,undef)]∧St (Rs.ah F_).fp w0 w [.ah F_,.blk b1 #[ii a1.1,ii a1.2.1,v1_2_] 88,.blk b2 #[ii 0,ii 0,sn] 88,.blk b3 #[ii a1.1,ii a1.2.1,v1_2_] 88,.blk b4 #[ii a1.1,ii (I W (a1.2.1+0)),v1,pt F_.p,v4] 442,.own (.int .u8) 5 v1 l6,.own (.int .i64) 3 v4 l4,.own (.int .u8) 5 v5 x4,.own (.int .u8) 5 v6 x7]) ?_ ?_
      ·refine aH (vm (ii x8) (vm (ii (l4.length:Int)) (vr (cx z z) (vm (.bool (!decide (x8=(l4.length:Int)))) ?_))))
       rcases bR (!decide (x8=(l4.length:Int)))with c7|c7
       ·have E:=iT c7 E
        refine oo c7 z (mv (iu (at_ 0 ((l6.take ((I W (I W (x8+1)*I W (a1.2.1+0))).toNat)).drop ((I W (x8*I W (a1.2.1+0))).toNat)) x2)) z) (oo c7 z (cx z z) (vr (pT (.bool (!decide (at_ 0 ((l6.take ((I W (I W (x8+1)*I W (a1.2.1+0))).toNat)).drop ((I W (x8*I W (a1.2.1+0))).toNat)) x2=0))) z z c7) (aK ?_)))
        exact⟨k7,_,_,aI _,E,aD ⟨z,z,z,z,z,z,z,z,z,acu⟩,H⟩
       have E:=iF c7 E
       refine ow c7 z (ow c7 z (vr (pF (.bool false) z z c7) (aK ?_)))
       exact⟨k7,_,_,aI _,E,aD ⟨z,z,z,z,z,z,z,z,z,acu⟩,H⟩
      rintro t w ⟨k8,x9,t8,hk7,E,rfl,H⟩
      unfold bH.j2 at E
      refine aE E z (fun c9 E=>?_) (fun c9 E=>?_)
      ·refine ae (cd (ds:=[]) bZ H z z ?_)
       have H:=H.drew
       refine wm 0 z H (pt b4) (wg 1 z H (bw z) (wg 2 z H (az vx z) (wz 3 z H (fun w H=>av dk z (ak (H.Gt 4 z) z)) (wm 4 z H (iu (at_ 0 ((l6.take ((I W (I W (x8+1)*I W (a1.2.1+0))).toNat)).drop ((I W (x8*I W (a1.2.1+0))).toNat)) x2)) (wm 5 z H (pt b4) (wm 6 z H (ii (l4.length:Int)) (wm 10 z H (ii 0) (wo 7 z (cm 34 [pt b4,ii (l4.length:Int)] ly Tryz.func381 z z z z (rg (va sn (nl (ae (cd (ds:=[]) bZ H z z ?_))))))))))))))
       have H:=H.drew
       refine wm 0 z H (pt b4) (wg 1 z H (bw z) (wg 2 z H (az cM z) (wg 3 z H (az gI z) (wz 4 z H (fun w H=>av bQ z (ak (H.Gt 4 z) z)) (wm 5 z H (ii (l4.length:Int)) (wm 6 z H (pt b4) (wg 7 z H (bw z) (wg 8 z H (az cM z) (wg 9 z H (az cS z) (wz 10 z H (fun w H=>av bf z (ak (H.Gt 4 z) z)) (wg 11 z H (cF z z) (wm 12 z H (ii (l4.length:Int)) (wg 13 z H (aO z z) (wm 14 z H (pt b4) (wg 15 z H (bw z) (wg 16 z H (az cM z) (wg 17 z H (az cS z) (wz 18 z H (fun w H=>av bf z (ak (H.Gt 4 z) z)) (wg 19 z H (cF z z) (wm 20 z H (ii (l4.length:Int)) (wg 21 z H (aO z z) (wm 22 z H (pt b4) (wg 23 z H (bw z) (wg 24 z H (az cM z) (wg 25 z H (az cS z) (wz 26 z H (fun w H=>av bf z (ak (H.Gt 4 z) z)) (wg 27 z H (cF z z) ?_)))))))))))))))))))))))))))
       obtain⟨⟨g39,g40,g41,g42⟩,E⟩:=ar E
       have p25:(I W ((l4.length:Int)*I W (a1.2.1+0))).toNat≤(I W (I W ((l4.length:Int)+1)*I W (a1.2.1+0))).toNat:=a_
       have p26:(I W (I W ((l4.length:Int)+1)*I W (a1.2.1+0))).toNat≤(I W (I W ((l4.length:Int)+1)*I W (a1.2.1+0))).toNat:=a_
       have p27:(I W (I W ((l4.length:Int)+1)*I W (a1.2.1+0))).toNat≤l6.length:=a_
       refine wz 28 z H (fun w H=>kW aN (ao (H.Gt 5 z)) z z z z g39 g40 g41 g42) (wg 29 z H (sg (cq v1 ((I W ((l4.length:Int)*I W (a1.2.1+0))).toNat) ((I W (I W ((l4.length:Int)+1)*I W (a1.2.1+0))).toNat) ((I W (I W ((l4.length:Int)+1)*I W (a1.2.1+0))).toNat) 1) z) (wd (ab (aj (⟨.inl z,cq v1 ((I W ((l4.length:Int)*I W (a1.2.1+0))).toNat) ((I W (I W ((l4.length:Int)+1)*I W (a1.2.1+0))).toNat) ((I W (I W ((l4.length:Int)+1)*I W (a1.2.1+0))).toNat) 1,tk0 z ⟨ba z (ad ai) z,(⟨fun _=>H.ag [0,1,2,3,4,5,6,7,8] z z,?_⟩)⟩⟩)))))
       refine wo 8 z (YN ph H 0 E z (fun _ h=>gn.calls (H.Gt 0 z) (H.cb 5 0 z z z (Rd.cq (ao (H.Gt 5 z)) p25 p26 p27)) h) (fun x10 E v7 w H=>⟨fun _=>H.ag [0,1,2,3,4,5,6,7,8] z z,wy 9 z (H.ag [0,1,2,3,4,5,6,7,8] z z) (aY bI (ao (H.Gt 9 z)) z) (wd (ab (aG ?_)))⟩))
       refine bx (fun kk t w=>∃(l7:List Int)(x11:Int)(t9:Fr),kk≤k8∧bH.l5 kk a1 l4 x2 x8 x10 l7 x11=some r∧t=aU t9 [(0,pt b4),(2,ii x2),(6,ii (l4.length:Int)),(9,ii x8),(53,ii a1.1),(54,ii x8),(78,v7),(79,ii (x10.length:Int)),(80,ii x11),(1000000,undef)]∧St (Rs.ah F_).fp w0 w [.ah F_,.blk b1 #[ii a1.1,ii a1.2.1,v1_2_] 88,.blk b2 #[ii 0,ii 0,sn] 88,.blk b3 #[ii a1.1,ii a1.2.1,v1_2_] 88,.blk b4 #[ii a1.1,ii (I W (a1.2.1+0)),v1,pt F_.p,v4] 442,.own (.int .u8) 5 v1 l7,.own (.int .i64) 3 v4 l4,.own (.int .u8) 5 v5 x4,.own (.int .u8) 5 v6 x7,.own (.int .u8) 5 v7 x10]) k8 ?_ ?_
       ·exact⟨_,_,_,aI _,E,aD ⟨z,z,z,z,z,z,z,z,z,z,acu⟩,H⟩
       rintro kk t w ⟨l7,x11,t9,hk8,E,rfl,H⟩
       obtain⟨k9,rfl⟩|rfl:=ks kk
       rotate_left
       ·cases E
       rw[bH.l5]at E
       refine rg (vr (aZ z z) (nl (ae ?_)))
       refine aE E z (fun c10 E=>?_) (fun c10 E=>?_)
       ·refine aA (ab (ae (aG (rg (vm (ii x11) ?_)))))
        obtain⟨⟨g43,g44⟩,E⟩:=ar E
        refine vr (bo aN (ao (H.Gt 9 z)) z z g43 g44) (vr (bq bC (ao (H.Gt 9 z)) g43 g44 z) (va (ii x11) (va (iu (at_ 0 x10 x11)) (nl (aH (vm (pt b4) (vm (ii x8) (ye (cm 34 [pt b4,ii x8] ly Tryz.func381 z z z z (rg (va sn (nl (ae (cd (ds:=[]) bZ H z z ?_))))))))))))))
        have H:=H.drew
        refine wm 0 z H (pt b4) (wg 1 z H (bw z) (wg 2 z H (az cM z) (wg 3 z H (az gI z) (wz 4 z H (fun w H=>av bQ z (ak (H.Gt 4 z) z)) (wm 5 z H (ii x8) (wm 6 z H (pt b4) (wg 7 z H (bw z) (wg 8 z H (az cM z) (wg 9 z H (az cS z) (wz 10 z H (fun w H=>av bf z (ak (H.Gt 4 z) z)) (wg 11 z H (cF z z) (wm 12 z H (ii x8) (wg 13 z H (aO z z) (wm 14 z H (pt b4) (wg 15 z H (bw z) (wg 16 z H (az cM z) (wg 17 z H (az cS z) (wz 18 z H (fun w H=>av bf z (ak (H.Gt 4 z) z)) (wg 19 z H (cF z z) (wm 20 z H (ii x8) (wg 21 z H (aO z z) (wm 22 z H (pt b4) (wg 23 z H (bw z) (wg 24 z H (az cM z) (wg 25 z H (az cS z) (wz 26 z H (fun w H=>av bf z (ak (H.Gt 4 z) z)) (wg 27 z H (cF z z) ?_)))))))))))))))))))))))))))
        obtain⟨⟨g45,g46,g47,g48⟩,E⟩:=ar E
        have p28:(I W (x8*I W (a1.2.1+0))).toNat≤(I W (I W (x8+1)*I W (a1.2.1+0))).toNat:=a_
        have p29:(I W (I W (x8+1)*I W (a1.2.1+0))).toNat≤(I W (I W (x8+1)*I W (a1.2.1+0))).toNat:=a_
        have p30:(I W (I W (x8+1)*I W (a1.2.1+0))).toNat≤l7.length:=a_
        refine wz 28 z H (fun w H=>kW aN (ao (H.Gt 5 z)) z z z z g45 g46 g47 g48) (wg 29 z H (sg (cq v1 ((I W (x8*I W (a1.2.1+0))).toNat) ((I W (I W (x8+1)*I W (a1.2.1+0))).toNat) ((I W (I W (x8+1)*I W (a1.2.1+0))).toNat) 1) z) (wd (ab (aj (⟨.inl z,cq v1 ((I W (x8*I W (a1.2.1+0))).toNat) ((I W (I W (x8+1)*I W (a1.2.1+0))).toNat) ((I W (I W (x8+1)*I W (a1.2.1+0))).toNat) 1,tk0 z ⟨ba z (ad ai) z,(vm (ii x11) ?_)⟩⟩)))))
        obtain⟨⟨g49,g50⟩,E⟩:=ar E
        refine vr (bo aN (Rd.cq (ao (H.Gt 5 z)) p28 p29 p30) z z g49 g50) (vr (bq bC (Rd.cq (ao (H.Gt 5 z)) p28 p29 p30) g49 g50 z) (vm (iu (at_ 0 x10 x11)) (vr (ij z z) ?_)))
        obtain⟨⟨g51,g52⟩,E⟩:=ar E
        refine vr (bo aN (Rd.cq (ao (H.Gt 5 z)) p28 p29 p30) z z g51 g52) (s_ (Ra dB H 5 z p28 p29 p30 g51 g52 z z (fun w H=>aK (aR (ab (aH (vr (aO z z) (vm (ii (I W (x11+1))) (aK ?_)))))))))
        exact⟨k9,bL _,_,_,_,bK hk8,E,aD ⟨z,z,z,z,z,z,z,z,z,z,acu⟩,H⟩
       refine bt (aM (aM (bu (aR (ab (aH (vr (aO z z) (vm (ii (I W (x8+1))) (aK ?_)))))))))
       exact⟨k9,a_,_,_,_,a_,E,aD ⟨z,z,z,z,z,z,acu⟩,H.ag [0,1,2,3,4,5,6,7,8] z z⟩
      refine aA (aR (ab (aH (vr (aO z z) (vm (ii (I W (x8+1))) (aK ?_))))))
      exact⟨k8,a_,_,_,_,a_,E,aD ⟨z,z,z,z,z,z,acu⟩,H⟩
     refine bt (aM (aM (bu ?_)))
     exact⟨k7,_,_,a_,E,aD ⟨z,z,z,acu⟩,H⟩
    rintro t w ⟨k6,l5,t6,hk9,E,rfl,H⟩
    unfold bH.j1 at E
    refine aH (vm (pt b4) (vm (pt b4) (vr (bw z) (vr (az qZ z) (vr (av eU z (ak (H.Gt 4 z) z)) (vm (ii x2) (ye (cL (e:=(.int .i64)) (l:=[x2]) gl H z f_ ⟨z,z,acu⟩ f_ (fun v8 w H=>?_)))))))))
    obtain⟨g53,E⟩:=ar E
    refine ye (dZ gl H 6 z (ao (H.Gt 9 z)) z z a_ u_ (fun v9 w H=>vr (bw z) (vr (az qZ z) ?_)))
    obtain⟨p31,n2,c11,rfl⟩:=bX (H.Gt 6 z)
    refine s_ (cQ vy H 4 z z z z z (fun w H=>aK (⟨.inr z,.tuple #[],tk0 z ⟨ba z ai z,nl (bt (qs z (aM (aM (qs z (bu (ab (aH (vr (aO z z) (vm (ii (I W (x2+1))) (aK ?_)))))))))))⟩⟩)))
    exact⟨k6,a_,_,_,_,_,_,a_,E,aD ⟨z,z,z,z,acu⟩,H.ag [0,1,2,3,4,5,6] z z⟩
   refine aA (aR (ab (aH (vm (ii x3) (vr (aO z z) (va (ii (I W (x3+1))) (aK ?_)))))))
   exact⟨k5,bL _,_,_,bK hk5,E,aD ⟨z,z,z,z,z,z,acu⟩,H⟩
  refine bt (aM (aM (bu (aR (ab (aH (vr (aO z z) (vm (ii (I W (x2+1))) (aK ?_)))))))))
  exact⟨k5,a_,_,_,_,_,_,a_,E,aD ⟨z,z,z,z,acu⟩,H⟩
 refine bt (aM (aM (bu (Mq (⟨.inr z,.tuple #[],tk0 z ⟨ba z ai z,nl (rg (vm (pt b4) (va (pt b4) (nl (aj (⟨.inl z,pt b4,tk0 z ⟨ba z (ad ai) z,va (pt b4) (nl (ae (eZ (ds:=[]) (fun w=>∃cs':Array Value,St (Rs.ah F_).fp w0 w [.ah F_,.blk b1 #[ii a1.1,ii a1.2.1,v1_2_] 88,.blk b2 cs' 88,.blk b3 #[ii a1.1,ii a1.2.1,v1_2_] 88,.blk b4 #[ii a1.1,ii (I W (a1.2.1+0)),v1,pt F_.p,v4] 442,.own (.int .u8) 5 v1 l3,.own (.int .i64) 3 v4 l4]) bZ H z z ?_)))⟩⟩))))))⟩⟩)))))
 have H:=H.drew
 refine wm 0 z ⟨_,H⟩ (pt b4) (wg 1 z ⟨_,H⟩ (bw z) (wg 2 z ⟨_,H⟩ (az cM z) (wz 3 z ⟨_,H⟩ (fun w ⟨cs',H⟩=>bp (l:=[ii a1.1,ii (I W (a1.2.1+0)),v1]) jD (H.Gt 4 z) z z z) (wm 4 z ⟨_,H⟩ (pt b4) (wg 5 z ⟨_,H⟩ (bw z) (wg 6 z ⟨_,H⟩ (az qZ z) (wz 7 z ⟨_,H⟩ (fun w ⟨cs',H⟩=>av eU z (ak (H.Gt 4 z) z)) ?_)))))))
 obtain⟨p32,n3,c12,rfl⟩:=bX (H.Gt 5 z)
 refine wo 8 z (cy lA H 2 z z z z z z (fun w H=>⟨fun _=>⟨_,H.ag [0,1,2,3,4,5,6] z z⟩,wg 9 z ⟨_,H.ag [0,1,2,3,4,5,6] z z⟩ (sg v4 z) (wd (ab (aj ?_)))⟩))
 cases E
 exact⟨.inl z,_,tk0 z ⟨aB z (dL z jD (eG (n:=3) (H.Gt 2 z) z) z (ad ai)),_,_,z,H.fJ 0 5 6 z z z z z z⟩⟩
end Go.Proofs.YtmhkpafkadijgaaGreatDoor.Gw
