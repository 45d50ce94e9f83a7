/- A part of the proof of Rows.PlayDecodesCardSaid; the conditions are that card's own. -/
import Derived.Test.YtmhkpafkadijgaaGreatDoorQ11
set_option linter.all false
set_option maxRecDepth 100000
namespace Go.Proofs.YtmhkpafkadijgaaGreatDoor.Gw
open Go.IntKind renaming wrap→I,i64→W
open Go Go.RowKit
def x64(a b:Int):Int:=bits .xor .u64 a b
def a64(a b:Int):Int:=bits .and .u64 a b
theorem L3(k:Nat)(p0 p1 p2 p3 p4 p5 p6 p7 q0 q1 q2 q3 q4 q5 q6 q7:Int):ew.f (k+100) [p0,p1,p2,p3,p4,p5,p6,p7] [q0,q1,q2,q3,q4,q5,q6,q7]=(fc.f (k+19) [x64 0 (a64 p0 q0),x64 (x64 0 (a64 p0 q1)) (a64 p1 q0),x64 (x64 (x64 0 (a64 p0 q2)) (a64 p1 q1)) (a64 p2 q0),x64 (x64 (x64 (x64 0 (a64 p0 q3)) (a64 p1 q2)) (a64 p2 q1)) (a64 p3 q0),x64 (x64 (x64 (x64 (x64 0 (a64 p0 q4)) (a64 p1 q3)) (a64 p2 q2)) (a64 p3 q1)) (a64 p4 q0),x64 (x64 (x64 (x64 (x64 (x64 0 (a64 p0 q5)) (a64 p1 q4)) (a64 p2 q3)) (a64 p3 q2)) (a64 p4 q1)) (a64 p5 q0),x64 (x64 (x64 (x64 (x64 (x64 (x64 0 (a64 p0 q6)) (a64 p1 q5)) (a64 p2 q4)) (a64 p3 q3)) (a64 p4 q2)) (a64 p5 q1)) (a64 p6 q0),x64 (x64 (x64 (x64 (x64 (x64 (x64 (x64 0 (a64 p0 q7)) (a64 p1 q6)) (a64 p2 q5)) (a64 p3 q4)) (a64 p4 q3)) (a64 p5 q2)) (a64 p6 q1)) (a64 p7 q0),x64 (x64 (x64 (x64 (x64 (x64 (x64 0 (a64 p1 q7)) (a64 p2 q6)) (a64 p3 q5)) (a64 p4 q4)) (a64 p5 q3)) (a64 p6 q2)) (a64 p7 q1),x64 (x64 (x64 (x64 (x64 (x64 0 (a64 p2 q7)) (a64 p3 q6)) (a64 p4 q5)) (a64 p5 q4)) (a64 p6 q3)) (a64 p7 q2),x64 (x64 (x64 (x64 (x64 0 (a64 p3 q7)) (a64 p4 q6)) (a64 p5 q5)) (a64 p6 q4)) (a64 p7 q3),x64 (x64 (x64 (x64 0 (a64 p4 q7)) (a64 p5 q6)) (a64 p6 q5)) (a64 p7 q4),x64 (x64 (x64 0 (a64 p5 q7)) (a64 p6 q6)) (a64 p7 q5),x64 (x64 0 (a64 p6 q7)) (a64 p7 q6),x64 0 (a64 p7 q7)]).bind fun x=>an (decide (x.length=8)) (some x):=d_
theorem L8(k:Nat)(p0 p1 p2 p3 p4 p5 p6 p7:Int):gv.f (k+100) [p0,p1,p2,p3,p4,p5,p6,p7]=(fc.f (k+91) [p0,0,p1,0,p2,0,p3,0,p4,0,p5,0,p6,0,p7]).bind fun x=>an (decide (x.length=8)) (some x):=d_
theorem Bi(k:Nat)(w0 w1 w2 w3 w4 w5 w6 w7 w8 w9 w10 w11 w12 w13 w14:Int):fc.f (k+100) [w0,w1,w2,w3,w4,w5,w6,w7,w8,w9,w10,w11,w12,w13,w14]=some [x64 w0 (x64 (x64 (x64 w8 w14) w13) w12),x64 w1 (x64 (x64 w9 w14) w13),x64 (x64 w2 (x64 w10 w14)) (x64 (x64 (x64 w8 w14) w13) w12),x64 (x64 (x64 w3 w11) (x64 (x64 w9 w14) w13)) (x64 (x64 (x64 w8 w14) w13) w12),x64 (x64 (x64 (x64 w4 w12) (x64 w10 w14)) (x64 (x64 w9 w14) w13)) (x64 (x64 (x64 w8 w14) w13) w12),x64 (x64 (x64 (x64 w5 w13) w11) (x64 w10 w14)) (x64 (x64 w9 w14) w13),x64 (x64 (x64 (x64 w6 w14) w12) w11) (x64 w10 w14),x64 (x64 (x64 w7 w13) w12) w11]:=d_
def tJ{w:Nat}(p0 p1 p2 p3 p4 p5 p6 p7 q0 q1 q2 q3 q4 q5 q6 q7:BitVec w):List (BitVec w):=[((p0&&&q0)^^^((((((((((p1&&&q7)^^^(p2&&&q6))^^^(p3&&&q5))^^^(p4&&&q4))^^^(p5&&&q3))^^^(p6&&&q2))^^^(p7&&&q1))^^^(p7&&&q7))^^^((p6&&&q7)^^^(p7&&&q6)))^^^(((p5&&&q7)^^^(p6&&&q6))^^^(p7&&&q5)))),(((p0&&&q1)^^^(p1&&&q0))^^^((((((((p2&&&q7)^^^(p3&&&q6))^^^(p4&&&q5))^^^(p5&&&q4))^^^(p6&&&q3))^^^(p7&&&q2))^^^(p7&&&q7))^^^((p6&&&q7)^^^(p7&&&q6)))),(((((p0&&&q2)^^^(p1&&&q1))^^^(p2&&&q0))^^^((((((p3&&&q7)^^^(p4&&&q6))^^^(p5&&&q5))^^^(p6&&&q4))^^^(p7&&&q3))^^^(p7&&&q7)))^^^((((((((((p1&&&q7)^^^(p2&&&q6))^^^(p3&&&q5))^^^(p4&&&q4))^^^(p5&&&q3))^^^(p6&&&q2))^^^(p7&&&q1))^^^(p7&&&q7))^^^((p6&&&q7)^^^(p7&&&q6)))^^^(((p5&&&q7)^^^(p6&&&q6))^^^(p7&&&q5)))),(((((((p0&&&q3)^^^(p1&&&q2))^^^(p2&&&q1))^^^(p3&&&q0))^^^((((p4&&&q7)^^^(p5&&&q6))^^^(p6&&&q5))^^^(p7&&&q4)))^^^((((((((p2&&&q7)^^^(p3&&&q6))^^^(p4&&&q5))^^^(p5&&&q4))^^^(p6&&&q3))^^^(p7&&&q2))^^^(p7&&&q7))^^^((p6&&&q7)^^^(p7&&&q6))))^^^((((((((((p1&&&q7)^^^(p2&&&q6))^^^(p3&&&q5))^^^(p4&&&q4))^^^(p5&&&q3))^^^(p6&&&q2))^^^(p7&&&q1))^^^(p7&&&q7))^^^((p6&&&q7)^^^(p7&&&q6)))^^^(((p5&&&q7)^^^(p6&&&q6))^^^(p7&&&q5)))),(((((((((p0&&&q4)^^^(p1&&&q3))^^^(p2&&&q2))^^^(p3&&&q1))^^^(p4&&&q0))^^^(((p5&&&q7)^^^(p6&&&q6))^^^(p7&&&q5)))^^^((((((p3&&&q7)^^^(p4&&&q6))^^^(p5&&&q5))^^^(p6&&&q4))^^^(p7&&&q3))^^^(p7&&&q7)))^^^((((((((p2&&&q7)^^^(p3&&&q6))^^^(p4&&&q5))^^^(p5&&&q4))^^^(p6&&&q3))^^^(p7&&&q2))^^^(p7&&&q7))^^^((p6&&&q7)^^^(p7&&&q6))))^^^((((((((((p1&&&q7)^^^(p2&&&q6))^^^(p3&&&q5))^^^(p4&&&q4))^^^(p5&&&q3))^^^(p6&&&q2))^^^(p7&&&q1))^^^(p7&&&q7))^^^((p6&&&q7)^^^(p7&&&q6)))^^^(((p5&&&q7)^^^(p6&&&q6))^^^(p7&&&q5)))),((((((((((p0&&&q5)^^^(p1&&&q4))^^^(p2&&&q3))^^^(p3&&&q2))^^^(p4&&&q1))^^^(p5&&&q0))^^^((p6&&&q7)^^^(p7&&&q6)))^^^((((p4&&&q7)^^^(p5&&&q6))^^^(p6&&&q5))^^^(p7&&&q4)))^^^((((((p3&&&q7)^^^(p4&&&q6))^^^(p5&&&q5))^^^(p6&&&q4))^^^(p7&&&q3))^^^(p7&&&q7)))^^^((((((((p2&&&q7)^^^(p3&&&q6))^^^(p4&&&q5))^^^(p5&&&q4))^^^(p6&&&q3))^^^(p7&&&q2))^^^(p7&&&q7))^^^((p6&&&q7)^^^(p7&&&q6)))),(((((((((((p0&&&q6)^^^(p1&&&q5))^^^(p2&&&q4))^^^(p3&&&q3))^^^(p4&&&q2))^^^(p5&&&q1))^^^(p6&&&q0))^^^(p7&&&q7))^^^(((p5&&&q7)^^^(p6&&&q6))^^^(p7&&&q5)))^^^((((p4&&&q7)^^^(p5&&&q6))^^^(p6&&&q5))^^^(p7&&&q4)))^^^((((((p3&&&q7)^^^(p4&&&q6))^^^(p5&&&q5))^^^(p6&&&q4))^^^(p7&&&q3))^^^(p7&&&q7))),(((((((((((p0&&&q7)^^^(p1&&&q6))^^^(p2&&&q5))^^^(p3&&&q4))^^^(p4&&&q3))^^^(p5&&&q2))^^^(p6&&&q1))^^^(p7&&&q0))^^^((p6&&&q7)^^^(p7&&&q6)))^^^(((p5&&&q7)^^^(p6&&&q6))^^^(p7&&&q5)))^^^((((p4&&&q7)^^^(p5&&&q6))^^^(p6&&&q5))^^^(p7&&&q4)))]
def wh(p0 p1 p2 p3 p4 p5 p6 p7 q0 q1 q2 q3 q4 q5 q6 q7:Bool):List Bool:=[((p0&&q0)^^((((((((((p1&&q7)^^(p2&&q6))^^(p3&&q5))^^(p4&&q4))^^(p5&&q3))^^(p6&&q2))^^(p7&&q1))^^(p7&&q7))^^((p6&&q7)^^(p7&&q6)))^^(((p5&&q7)^^(p6&&q6))^^(p7&&q5)))),(((p0&&q1)^^(p1&&q0))^^((((((((p2&&q7)^^(p3&&q6))^^(p4&&q5))^^(p5&&q4))^^(p6&&q3))^^(p7&&q2))^^(p7&&q7))^^((p6&&q7)^^(p7&&q6)))),(((((p0&&q2)^^(p1&&q1))^^(p2&&q0))^^((((((p3&&q7)^^(p4&&q6))^^(p5&&q5))^^(p6&&q4))^^(p7&&q3))^^(p7&&q7)))^^((((((((((p1&&q7)^^(p2&&q6))^^(p3&&q5))^^(p4&&q4))^^(p5&&q3))^^(p6&&q2))^^(p7&&q1))^^(p7&&q7))^^((p6&&q7)^^(p7&&q6)))^^(((p5&&q7)^^(p6&&q6))^^(p7&&q5)))),(((((((p0&&q3)^^(p1&&q2))^^(p2&&q1))^^(p3&&q0))^^((((p4&&q7)^^(p5&&q6))^^(p6&&q5))^^(p7&&q4)))^^((((((((p2&&q7)^^(p3&&q6))^^(p4&&q5))^^(p5&&q4))^^(p6&&q3))^^(p7&&q2))^^(p7&&q7))^^((p6&&q7)^^(p7&&q6))))^^((((((((((p1&&q7)^^(p2&&q6))^^(p3&&q5))^^(p4&&q4))^^(p5&&q3))^^(p6&&q2))^^(p7&&q1))^^(p7&&q7))^^((p6&&q7)^^(p7&&q6)))^^(((p5&&q7)^^(p6&&q6))^^(p7&&q5)))),(((((((((p0&&q4)^^(p1&&q3))^^(p2&&q2))^^(p3&&q1))^^(p4&&q0))^^(((p5&&q7)^^(p6&&q6))^^(p7&&q5)))^^((((((p3&&q7)^^(p4&&q6))^^(p5&&q5))^^(p6&&q4))^^(p7&&q3))^^(p7&&q7)))^^((((((((p2&&q7)^^(p3&&q6))^^(p4&&q5))^^(p5&&q4))^^(p6&&q3))^^(p7&&q2))^^(p7&&q7))^^((p6&&q7)^^(p7&&q6))))^^((((((((((p1&&q7)^^(p2&&q6))^^(p3&&q5))^^(p4&&q4))^^(p5&&q3))^^(p6&&q2))^^(p7&&q1))^^(p7&&q7))^^((p6&&q7)^^(p7&&q6)))^^(((p5&&q7)^^(p6&&q6))^^(p7&&q5)))),((((((((((p0&&q5)^^(p1&&q4))^^(p2&&q3))^^(p3&&q2))^^(p4&&q1))^^(p5&&q0))^^((p6&&q7)^^(p7&&q6)))^^((((p4&&q7)^^(p5&&q6))^^(p6&&q5))^^(p7&&q4)))^^((((((p3&&q7)^^(p4&&q6))^^(p5&&q5))^^(p6&&q4))^^(p7&&q3))^^(p7&&q7)))^^((((((((p2&&q7)^^(p3&&q6))^^(p4&&q5))^^(p5&&q4))^^(p6&&q3))^^(p7&&q2))^^(p7&&q7))^^((p6&&q7)^^(p7&&q6)))),(((((((((((p0&&q6)^^(p1&&q5))^^(p2&&q4))^^(p3&&q3))^^(p4&&q2))^^(p5&&q1))^^(p6&&q0))^^(p7&&q7))^^(((p5&&q7)^^(p6&&q6))^^(p7&&q5)))^^((((p4&&q7)^^(p5&&q6))^^(p6&&q5))^^(p7&&q4)))^^((((((p3&&q7)^^(p4&&q6))^^(p5&&q5))^^(p6&&q4))^^(p7&&q3))^^(p7&&q7))),(((((((((((p0&&q7)^^(p1&&q6))^^(p2&&q5))^^(p3&&q4))^^(p4&&q3))^^(p5&&q2))^^(p6&&q1))^^(p7&&q0))^^((p6&&q7)^^(p7&&q6)))^^(((p5&&q7)^^(p6&&q6))^^(p7&&q5)))^^((((p4&&q7)^^(p5&&q6))^^(p6&&q5))^^(p7&&q4)))]
theorem BB{w:Nat}(n:Nat)(p0 p1 p2 p3 p4 p5 p6 p7 q0 q1 q2 q3 q4 q5 q6 q7:BitVec w):(tJ p0 p1 p2 p3 p4 p5 p6 p7 q0 q1 q2 q3 q4 q5 q6 q7).map (·.getLsbD n)=wh (p0.getLsbD n) (p1.getLsbD n) (p2.getLsbD n) (p3.getLsbD n) (p4.getLsbD n) (p5.getLsbD n) (p6.getLsbD n) (p7.getLsbD n) (q0.getLsbD n) (q1.getLsbD n) (q2.getLsbD n) (q3.getLsbD n) (q4.getLsbD n) (q5.getLsbD n) (q6.getLsbD n) (q7.getLsbD n):=by
 simp only[tJ,wh,ι,rW,aaE,BitVec.getLsbD_and]
def qp(k:Nat):BitVec 256:=BitVec.ofNat 256 ([77194726158210796949047323339125271902179989777093709359638389338608753093290,92633671389852956338856788006950326282615987732512451231566067206330503711948,108980789870415242751596221184647442685430573802955824978313020242741769072880,115341536360906404779899502576747487978354537254490211650198994186870666100480,115790322417210952336529717160220497262186272106556906860092653394915770695680,115792089210356248762697446947946071893095522863849111501270640965525260206080,115792089237316195417293883273301227089774477609353836086800156426807153786880,115792089237316195423570985008687907852929702298719625575994209400481361428480].getD k 0)
def mk(c:Bool):BitVec 256:=bif c then BitVec.allOnes 256 else 0
def gq(a j:Nat):BitVec 256:=(bif (br a 1).testBit j then qp 0 else 0)^^^(bif (br a 2).testBit j then qp 1 else 0)^^^(bif (br a 4).testBit j then qp 2 else 0)^^^(bif (br a 8).testBit j then qp 3 else 0)^^^(bif (br a 16).testBit j then qp 4 else 0)^^^(bif (br a 32).testBit j then qp 5 else 0)^^^(bif (br a 64).testBit j then qp 6 else 0)^^^(bif (br a 128).testBit j then qp 7 else 0)
def Gm(a:Nat):Bool:=decide (tJ (mk (a.testBit 0)) (mk (a.testBit 1)) (mk (a.testBit 2)) (mk (a.testBit 3)) (mk (a.testBit 4)) (mk (a.testBit 5)) (mk (a.testBit 6)) (mk (a.testBit 7)) (qp 0) (qp 1) (qp 2) (qp 3) (qp 4) (qp 5) (qp 6) (qp 7)=[gq a 0,gq a 1,gq a 2,gq a 3,gq a 4,gq a 5,gq a 6,gq a 7])
theorem Gn:fB Gm=true:=R_
theorem lN{b k:Nat}(hb:b<256)(hk:k<8):(qp k).getLsbD b=b.testBit k:=by
 have h:fB (fun b=>(List.range 8).all fun k=>(qp k).getLsbD b==b.testBit k)=true:=R_
 have h1:=Y_.1 (fM h hb) k (φ.2 hk)
 exact eq_of_beq h1
theorem Mh{b:Nat}(c:Bool)(hb:b<256):(mk c).getLsbD b=c:=by
 cases c
 ·simp[mk]
 show(BitVec.allOnes 256).getLsbD b=true
 rw[BitVec.getLsbD_allOnes];exact W_ hb
theorem Ml{a b:Nat}(ha:a<256)(hb:b<256):wh (a.testBit 0) (a.testBit 1) (a.testBit 2) (a.testBit 3) (a.testBit 4) (a.testBit 5) (a.testBit 6) (a.testBit 7) (b.testBit 0) (b.testBit 1) (b.testBit 2) (b.testBit 3) (b.testBit 4) (b.testBit 5) (b.testBit 6) (b.testBit 7)=[(br a b).testBit 0,(br a b).testBit 1,(br a b).testBit 2,(br a b).testBit 3,(br a b).testBit 4,(br a b).testBit 5,(br a b).testBit 6,(br a b).testBit 7]:=by
 have h:=L_ (List.map (·.getLsbD b)) (aT (fM Gn ha))
 rw[BB]at h
 simp only[Mh _ hb,ι,rW]at h
 rw[lN hb (k:=0) f_,lN hb (k:=1) f_,lN hb (k:=2) f_,lN hb (k:=3) f_,lN hb (k:=4) f_,lN hb (k:=5) f_,lN hb (k:=6) f_,lN hb (k:=7) f_]at h
 rw[h]
 have e:b=(bif b.testBit 0 then 1 else 0)^^^(bif b.testBit 1 then 2 else 0)^^^(bif b.testBit 2 then 4 else 0)^^^(bif b.testBit 3 then 8 else 0)^^^(bif b.testBit 4 then 16 else 0)^^^(bif b.testBit 5 then 32 else 0)^^^(bif b.testBit 6 then 64 else 0)^^^(bif b.testBit 7 then 128 else 0):=by
  have h:fB (fun b=>Nat.beq b ((bif b.testBit 0 then 1 else 0)^^^(bif b.testBit 1 then 2 else 0)^^^(bif b.testBit 2 then 4 else 0)^^^(bif b.testBit 3 then 8 else 0)^^^(bif b.testBit 4 then 16 else 0)^^^(bif b.testBit 5 then 32 else 0)^^^(bif b.testBit 6 then 64 else 0)^^^(bif b.testBit 7 then 128 else 0)))=true:=R_
  exact eF (fM h hb)
 have z:∀(c:Bool)(m:Nat),br a (bif c then m else 0)=bif c then br a m else 0:=fun c m=>by cases c;exact pJ a;rfl
 have t:∀(c:Bool)(m j:Nat),(bif c then m else 0).testBit j=(m.testBit j&&c):=fun c m j=>by cases c<;>simp
 have q:∀(c:Bool)(k:Nat),k<8→(bif c then qp k else(0:BitVec 256)).getLsbD b=(c&&b.testBit k):=fun c k hk=>by
  cases c
  ·simp
  exact(lN hb hk).trans (NM _).symm
 have g:∀j,(gq a j).getLsbD b=(br a b).testBit j:=fun j=>by
  conv=>rhs;rw[e]
  simp only[vK,z,aa0,t]
  simp only[gq,aaE]
  rw[q _ 0 f_,q _ 1 f_,q _ 2 f_,q _ 3 f_,q _ 4 f_,q _ 5 f_,q _ 6 f_,q _ 7 f_]
 rw[g 0,g 1,g 2,g 3,g 4,g 5,g 6,g 7]
def vv(b:BitVec 64):Int:=(b.toNat:Int)
theorem uI(a b:BitVec 64):x64 (vv a) (vv b)=vv (a^^^b):=by
 have h:=(a^^^b).isLt
 show IntKind.u64.wrap ((BitVec.ofInt 64 (a.toNat:Int)^^^BitVec.ofInt 64 (b.toNat:Int)).toNat:Int)=_
 rw[FH,FH,Nh,Nh,MC,MC,jx a_ a_]
 rfl
theorem EF(a b:BitVec 64):a64 (vv a) (vv b)=vv (a&&&b):=by
 have h:=(a&&&b).isLt
 show IntKind.u64.wrap ((BitVec.ofInt 64 (a.toNat:Int)&&&BitVec.ofInt 64 (b.toNat:Int)).toNat:Int)=_
 rw[FH,FH,Nh,Nh,MC,MC,jx a_ a_]
 rfl
theorem QN(b:BitVec 64):x64 0 (vv b)=vv b:=by
 have:=uI 0 b
 rw[show vv 0=0 from rfl,show(0:BitVec 64)^^^b=b from BitVec.zero_xor]at this;exact this
theorem L1(k:Nat)(p0 p1 p2 p3 p4 p5 p6 p7 q0 q1 q2 q3 q4 q5 q6 q7:BitVec 64):ew.f (k+200) [vv p0,vv p1,vv p2,vv p3,vv p4,vv p5,vv p6,vv p7] [vv q0,vv q1,vv q2,vv q3,vv q4,vv q5,vv q6,vv q7]=some ((tJ p0 p1 p2 p3 p4 p5 p6 p7 q0 q1 q2 q3 q4 q5 q6 q7).map vv):=by
 rw[show k+200=(k+100)+100 from rfl,L3,show k+100+19=(k+19)+100 from rfl]
 simp only[EF,QN,uI]
 rw[Bi,aJ]
 simp only[uI]
 rfl
def xz{w:Nat}(p0 p1 p2 p3 p4 p5 p6 p7:BitVec w):List (BitVec w):=[(p0^^^(((p4^^^p7)^^^(0:BitVec w))^^^p6)),((0:BitVec w)^^^(((0:BitVec w)^^^p7)^^^(0:BitVec w))),((p1^^^(p5^^^p7))^^^(((p4^^^p7)^^^(0:BitVec w))^^^p6)),((((0:BitVec w)^^^(0:BitVec w))^^^(((0:BitVec w)^^^p7)^^^(0:BitVec w)))^^^(((p4^^^p7)^^^(0:BitVec w))^^^p6)),((((p2^^^p6)^^^(p5^^^p7))^^^(((0:BitVec w)^^^p7)^^^(0:BitVec w)))^^^(((p4^^^p7)^^^(0:BitVec w))^^^p6)),(((((0:BitVec w)^^^(0:BitVec w))^^^(0:BitVec w))^^^(p5^^^p7))^^^(((0:BitVec w)^^^p7)^^^(0:BitVec w))),((((p3^^^p7)^^^p6)^^^(0:BitVec w))^^^(p5^^^p7)),((((0:BitVec w)^^^(0:BitVec w))^^^p6)^^^(0:BitVec w))]
def uC(p0 p1 p2 p3 p4 p5 p6 p7:Bool):List Bool:=[(p0^^(((p4^^p7)^^false)^^p6)),(false^^((false^^p7)^^false)),((p1^^(p5^^p7))^^(((p4^^p7)^^false)^^p6)),(((false^^false)^^((false^^p7)^^false))^^(((p4^^p7)^^false)^^p6)),((((p2^^p6)^^(p5^^p7))^^((false^^p7)^^false))^^(((p4^^p7)^^false)^^p6)),((((false^^false)^^false)^^(p5^^p7))^^((false^^p7)^^false)),((((p3^^p7)^^p6)^^false)^^(p5^^p7)),(((false^^false)^^p6)^^false)]
theorem PM{w:Nat}(n:Nat)(p0 p1 p2 p3 p4 p5 p6 p7:BitVec w):(xz p0 p1 p2 p3 p4 p5 p6 p7).map (·.getLsbD n)=uC (p0.getLsbD n) (p1.getLsbD n) (p2.getLsbD n) (p3.getLsbD n) (p4.getLsbD n) (p5.getLsbD n) (p6.getLsbD n) (p7.getLsbD n):=by
 have z:(0:BitVec w).getLsbD n=false:=j_
 simp only[xz,uC,ι,rW,aaE,z]
theorem PL{a:Nat}(ha:a<256):uC (a.testBit 0) (a.testBit 1) (a.testBit 2) (a.testBit 3) (a.testBit 4) (a.testBit 5) (a.testBit 6) (a.testBit 7)=[(br a a).testBit 0,(br a a).testBit 1,(br a a).testBit 2,(br a a).testBit 3,(br a a).testBit 4,(br a a).testBit 5,(br a a).testBit 6,(br a a).testBit 7]:=by
 have h:fB (fun a=>decide (uC (a.testBit 0) (a.testBit 1) (a.testBit 2) (a.testBit 3) (a.testBit 4) (a.testBit 5) (a.testBit 6) (a.testBit 7)=[(br a a).testBit 0,(br a a).testBit 1,(br a a).testBit 2,(br a a).testBit 3,(br a a).testBit 4,(br a a).testBit 5,(br a a).testBit 6,(br a a).testBit 7]))=true:=R_
 exact aT (fM h ha)
theorem L7(k:Nat)(p0 p1 p2 p3 p4 p5 p6 p7:BitVec 64):gv.f (k+200) [vv p0,vv p1,vv p2,vv p3,vv p4,vv p5,vv p6,vv p7]=some ((xz p0 p1 p2 p3 p4 p5 p6 p7).map vv):=by
 rw[show k+200=(k+100)+100 from rfl,L8,show k+100+91=(k+91)+100 from rfl,Bi,aJ]
 simp only[show(0:Int)=vv 0 from rfl,uI]
 rfl
def ln(g:Nat):List Bool:=[g.testBit 0,g.testBit 1,g.testBit 2,g.testBit 3,g.testBit 4,g.testBit 5,g.testBit 6,g.testBit 7]
def gW(L:List Int)(f:Nat→Nat):Prop:=∃R:List (BitVec 64),R.length=8∧L=R.map vv∧∀n<64,f n<256∧R.map (·.getLsbD n)=ln (f n)
theorem len8{α:Type}:∀{R:List α},R.length=8→∃a b c d e f g h,R=[a,b,c,d,e,f,g,h]
 | [a,b,c,d,e,f,g,h],_=>⟨a,b,c,d,e,f,g,h,rfl⟩
theorem kT{L:List Int}{f:Nat→Nat}(h:gW L f):L.length=8:=by
 obtain⟨R,h1,rfl,_⟩:=h;simpa using h1
theorem zV(b i:Nat):Int.fdiv (b:Int) (2^i)=((b/2^i:Nat):Int):=by
 rw[ZH _ (by have:=Int.pow_pos (n:=2) (m:=i) f_;omega)]
 simp
theorem Fl(x y:Nat)(hx:x<2^64)(hy:y<2^64):bits .and .u64 (x:Int) (y:Int)=((x&&&y:Nat):Int):=bits_and_u64_nat _ _ a_ a_
theorem Ky(p:BitVec 64)(n:Nat)(hn:n<64):bits .and .u64 (Int.fdiv (vv p) (2^min (n:Int).toNat 64)) 1=((p.getLsbD n).toNat:Int):=by
 have h:=p.isLt
 rw[show min (n:Int).toNat 64=n by omega]
 show bits .and .u64 (Int.fdiv (p.toNat:Int) (2^n)) ((1:Nat):Int)=_
 rw[zV,Fl _ _ (Nat.lt_of_le_of_lt (Nat.div_le_self _ _) h) f_,Nat.and_one_is_mod]
 congr 1
 rw[BitVec.getLsbD,Nat.testBit_eq_decide_div_mod_eq]
 rcases Gp (p.toNat/2^n)with e|e<;>simp[e]
def mS(g:Nat)(b:Bool)(i:Int):Int:=IntKind.u8.wrap (IntKind.u8.wrap (b.toNat:Int)*2^min i.toNat 8)
def yD(b0 b1 b2 b3 b4 b5 b6 b7:Bool):Int:=bits .or .u8 (bits .or .u8 (bits .or .u8 (bits .or .u8 (bits .or .u8 (bits .or .u8 (bits .or .u8 (bits .or .u8 0 (mS 0 b0 0)) (mS 0 b1 1)) (mS 0 b2 2)) (mS 0 b3 3)) (mS 0 b4 4)) (mS 0 b5 5)) (mS 0 b6 6)) (mS 0 b7 7)
theorem F3{g:Nat}(hg:g<256):yD (g.testBit 0) (g.testBit 1) (g.testBit 2) (g.testBit 3) (g.testBit 4) (g.testBit 5) (g.testBit 6) (g.testBit 7)=(g:Int):=by
 have h:fB (fun g=>decide (yD (g.testBit 0) (g.testBit 1) (g.testBit 2) (g.testBit 3) (g.testBit 4) (g.testBit 5) (g.testBit 6) (g.testBit 7)=(g:Int)))=true:=R_
 exact aT (fM h hg)
theorem Kz(k n:Nat)(p0 p1 p2 p3 p4 p5 p6 p7:Int):fF.l0 (k+9) [p0,p1,p2,p3,p4,p5,p6,p7] (n:Int) 0 0=
 some (bits .or .u8 (bits .or .u8 (bits .or .u8 (bits .or .u8 (bits .or .u8 (bits .or .u8 (bits .or .u8 (bits .or .u8 0
  (IntKind.u8.wrap (IntKind.u8.wrap (bits .and .u64 (Int.fdiv p0 (2^min (n:Int).toNat 64)) 1)*2^min (0:Int).toNat 8)))
  (IntKind.u8.wrap (IntKind.u8.wrap (bits .and .u64 (Int.fdiv p1 (2^min (n:Int).toNat 64)) 1)*2^min (1:Int).toNat 8)))
  (IntKind.u8.wrap (IntKind.u8.wrap (bits .and .u64 (Int.fdiv p2 (2^min (n:Int).toNat 64)) 1)*2^min (2:Int).toNat 8)))
  (IntKind.u8.wrap (IntKind.u8.wrap (bits .and .u64 (Int.fdiv p3 (2^min (n:Int).toNat 64)) 1)*2^min (3:Int).toNat 8)))
  (IntKind.u8.wrap (IntKind.u8.wrap (bits .and .u64 (Int.fdiv p4 (2^min (n:Int).toNat 64)) 1)*2^min (4:Int).toNat 8)))
  (IntKind.u8.wrap (IntKind.u8.wrap (bits .and .u64 (Int.fdiv p5 (2^min (n:Int).toNat 64)) 1)*2^min (5:Int).toNat 8)))
  (IntKind.u8.wrap (IntKind.u8.wrap (bits .and .u64 (Int.fdiv p6 (2^min (n:Int).toNat 64)) 1)*2^min (6:Int).toNat 8)))
  (IntKind.u8.wrap (IntKind.u8.wrap (bits .and .u64 (Int.fdiv p7 (2^min (n:Int).toNat 64)) 1)*2^min (7:Int).toNat 8))):=d_
theorem tE{L:List Int}{f:Nat→Nat}(h:gW L f){n k:Nat}(hn:n<64)(hk:20<k):fF.f k L (n:Int)=some ((f n:Nat):Int):=by
 obtain⟨R,h1,rfl,h2⟩:=h
 obtain⟨r0,r1,r2,r3,r4,r5,r6,r7,rfl⟩:=len8 h1
 obtain⟨hg,hb⟩:=h2 n hn
 obtain⟨k,rfl⟩:∃k',k=k'+9:=⟨k-9,a_⟩
 simp only[ι,rW,ln,P7,and_true]at hb
 obtain⟨b0,b1,b2,b3,b4,b5,b6,b7⟩:=hb
 unfold fF.f
 rw[aF EJ,aQ a_,aQ a_]
 simp only[ι,rW]
 rw[Kz]
 simp only[Ky _ n hn]
 rw[b0,b1,b2,b3,b4,b5,b6,b7]
 exact L_ some (F3 hg)
theorem tG{L M:List Int}{f g:Nat→Nat}(h:gW L f)(h':gW M g){k:Nat}(hk:300<k):∃N,ew.f k L M=some N∧gW N fun n=>br (f n) (g n):=by
 obtain⟨R,h1,rfl,h2⟩:=h
 obtain⟨r0,r1,r2,r3,r4,r5,r6,r7,rfl⟩:=len8 h1
 obtain⟨S,g1,rfl,g2⟩:=h'
 obtain⟨s0,s1,s2,s3,s4,s5,s6,s7,rfl⟩:=len8 g1
 obtain⟨k,rfl⟩:∃k',k=k'+200:=⟨k-200,a_⟩
 refine⟨_,L1 k r0 r1 r2 r3 r4 r5 r6 r7 s0 s1 s2 s3 s4 s5 s6 s7,_,rfl,rfl,fun n hn=>?_⟩
 obtain⟨hf,hb⟩:=h2 n hn
 obtain⟨hg,hc⟩:=g2 n hn
 refine⟨mz _ hf,?_⟩
 simp only[ι,rW,ln,P7,and_true]at hb hc
 obtain⟨b0,b1,b2,b3,b4,b5,b6,b7⟩:=hb
 obtain⟨c0,c1,c2,c3,c4,c5,c6,c7⟩:=hc
 rw[BB,b0,b1,b2,b3,b4,b5,b6,b7,c0,c1,c2,c3,c4,c5,c6,c7]
 exact Ml hf hg
theorem Bo{L:List Int}{f:Nat→Nat}(h:gW L f){k:Nat}(hk:300<k):∃N,gv.f k L=some N∧gW N fun n=>br (f n) (f n):=by
 obtain⟨R,h1,rfl,h2⟩:=h
 obtain⟨r0,r1,r2,r3,r4,r5,r6,r7,rfl⟩:=len8 h1
 obtain⟨k,rfl⟩:∃k',k=k'+200:=⟨k-200,a_⟩
 refine⟨_,L7 k r0 r1 r2 r3 r4 r5 r6 r7,_,rfl,rfl,fun n hn=>?_⟩
 obtain⟨hf,hb⟩:=h2 n hn
 refine⟨mz _ hf,?_⟩
 simp only[ι,rW,ln,P7,and_true]at hb
 obtain⟨b0,b1,b2,b3,b4,b5,b6,b7⟩:=hb
 rw[PM,b0,b1,b2,b3,b4,b5,b6,b7]
 exact PL hf
def o64(p b i:Int)(n:Nat):Int:=bits .or .u64 p (IntKind.u64.wrap (IntKind.u64.wrap (bits .and .u8 (Int.fdiv b (2^min i.toNat 8)) 1)*2^min (n:Int).toNat 64))
theorem M4(a b:BitVec 64):bits .or .u64 (vv a) (vv b)=vv (a|||b):=by
 have h:=(a|||b).isLt
 show IntKind.u64.wrap ((BitVec.ofInt 64 (a.toNat:Int)|||BitVec.ofInt 64 (b.toNat:Int)).toNat:Int)=_
 rw[FH,FH,Nh,Nh,MC,MC,jx a_ a_]
 rfl
theorem F4{b i:Nat}(hb:b<256)(hi:i<8):bits .and .u8 (Int.fdiv (b:Int) (2^min (i:Int).toNat 8)) 1=(((b.testBit i).toNat:Nat):Int):=by
 have h:fB (fun b=>(List.range 8).all fun i=>decide (bits .and .u8 (Int.fdiv (b:Int) (2^min (i:Int).toNat 8)) 1=(((b.testBit i).toNat:Nat):Int)))=true:=R_
 exact aT (Y_.1 (fM h hb) i (φ.2 hi))
theorem mR(p:BitVec 64){b i n:Nat}(hb:b<256)(hi:i<8)(hn:n<64):o64 (vv p) (b:Int) (i:Int) n=vv (p|||(bif b.testBit i then BitVec.twoPow 64 n else 0)):=by
 unfold o64
 rw[F4 hb hi,show min (n:Int).toNat 64=n by omega,←M4]
 refine L_ (bits .or .u64 (vv p)) ?_
 have hp:2^n<2^64:=Nat.pow_lt_pow_right f_ hn
 cases b.testBit i
 ·show IntKind.u64.wrap (IntKind.u64.wrap 0*2^n)=0
  rw[show IntKind.u64.wrap 0=0 from rfl,Int.zero_mul];rfl
 show IntKind.u64.wrap (IntKind.u64.wrap 1*2^n)=(((BitVec.twoPow 64 n).toNat:Nat):Int)
 rw[show IntKind.u64.wrap 1=1 from rfl,Int.one_mul,BitVec.toNat_twoPow,PQ hp]
 have e:((2^n:Nat):Int)=(2:Int)^n:=j_
 rw[←e]
 generalize 2^n=q at hp
 rw[jx a_ a_]
theorem Nc(k n:Nat)(a:List Int)(p0 p1 p2 p3 p4 p5 p6 p7:Int):cY.l1 (k+9) a (n:Int) [p0,p1,p2,p3,p4,p5,p6,p7] 0=
 cY.l0 k a (let b:=at_ 0 ((a.take ((min2 (a.length:Int) 64).toNat)).drop 0) (n:Int)
  [o64 p0 b 0 n,o64 p1 b 1 n,o64 p2 b 2 n,o64 p3 b 3 n,o64 p4 b 4 n,o64 p5 b 5 n,o64 p6 b 6 n,o64 p7 b 7 n]) (I W ((n:Int)+1)):=d_
def kU(p:BitVec 64)(b i n:Nat):BitVec 64:=p|||(bif b.testBit i then BitVec.twoPow 64 n else 0)
theorem M5(p:BitVec 64){b i n m:Nat}(hn:n<64):(kU p b i n).getLsbD m=(p.getLsbD m||(b.testBit i&&decide (n=m))):=by
 unfold kU
 rw[BitVec.getLsbD_or]
 cases b.testBit i
 ·simp
 simp[BitVec.getLsbD_twoPow,hn]
theorem yG{l:List Int}(h:cR l=true){n:Nat}(hn:n<l.length):∃b:Nat,b<256∧l.getD n 0=(b:Int):=by
 obtain⟨b,e,hb⟩:=qG h hn
 exact⟨b,hb,by rw[bF,C_ hn];exact e⟩
theorem B5{l:List Int}(hb:cR l=true)(hl:l.length≤64):∀(d n k:Nat)(R:List (BitVec 64)),n+d=l.length→10*d+10<k→R.length=8→(∀m<64,R.map (·.getLsbD m)=ln (if m<n then(l.getD m 0).toNat else 0))→
 ∃M,cY.l0 k l (R.map vv) (n:Int)=some M∧gW M fun m=>(l.getD m 0).toNat
 |d,n,0,R,_,hk,_,_=>a_
 |0,n,k+1,R,hn,hk,hR,hm=>by
  have e:(l.take ((min2 (l.length:Int) 64).toNat)).drop 0=l:=by
   rw[Γ,D_];unfold min2;split<;>omega
  rw[cY.l0,e,aQ a_,aF (by simpa using hR)]
  refine⟨_,rfl,R,hR,rfl,fun m hm64=>?_⟩
  have h:=hm m hm64
  by_cases hml:m<l.length
  ·obtain⟨b,hb1,hb2⟩:=yG hb hml
   rw[M_ a_]at h
   exact⟨by show(l.getD m 0).toNat<256;rw[hb2];simpa using hb1,h⟩
  rw[I_ a_]at h
  have e0:l.getD m 0=0:=by simp[bF,τ (show l.length≤m by omega)]
  refine⟨by show(l.getD m 0).toNat<256;rw[e0];decide,?_⟩
  show _=ln (l.getD m 0).toNat
  rw[e0];exact h
 |d+1,n,k+1,R,hn,hk,hR,hm=>by
  have e:(l.take ((min2 (l.length:Int) 64).toNat)).drop 0=l:=by
   rw[Γ,D_];unfold min2;split<;>omega
  obtain⟨b,hb1,hb2⟩:=yG hb (show n<l.length by omega)
  obtain⟨r0,r1,r2,r3,r4,r5,r6,r7,rfl⟩:=len8 hR
  obtain⟨k,rfl⟩:∃k',k=k'+9:=⟨k-9,a_⟩
  rw[cY.l0,bh (by rw[e];omega),aF (by rw[e];omega)]
  simp only[ι,rW]
  rw[Nc,e]
  have eb:at_ 0 l (n:Int)=(b:Int):=by simpa [at_] using hb2
  simp only[eb]
  have hn64:n<64:=a_
  rw[show(0:Int)=((0:Nat):Int) from rfl,show(1:Int)=((1:Nat):Int) from rfl,show(2:Int)=((2:Nat):Int) from rfl,show(3:Int)=((3:Nat):Int) from rfl,show(4:Int)=((4:Nat):Int) from rfl,show(5:Int)=((5:Nat):Int) from rfl,show(6:Int)=((6:Nat):Int) from rfl,show(7:Int)=((7:Nat):Int) from rfl]
  rw[mR r0 hb1 f_ hn64,mR r1 hb1 f_ hn64,mR r2 hb1 f_ hn64,mR r3 hb1 f_ hn64,mR r4 hb1 f_ hn64,mR r5 hb1 f_ hn64,mR r6 hb1 f_ hn64,mR r7 hb1 f_ hn64]
  have w:I W ((n:Int)+((1:Nat):Int))=((n+1:Nat):Int):=bT a_
  rw[w]
  refine B5 hb hl d (n+1) k [kU r0 b 0 n,kU r1 b 1 n,kU r2 b 2 n,kU r3 b 3 n,kU r4 b 4 n,kU r5 b 5 n,kU r6 b 6 n,kU r7 b 7 n] a_ a_ rfl fun m hm64=>?_
  have h:=hm m hm64
  simp only[ι,rW,ln,P7,and_true]at h
  obtain⟨b0,b1,b2,b3,b4,b5,b6,b7⟩:=h
  simp only[ι,rW,M5 _ hn64,b0,b1,b2,b3,b4,b5,b6,b7,ln]
  by_cases h1:m<n
  ·rw[M_ h1,M_ a_,θ (show ¬n=m by omega)];simp
  rw[I_ h1]
  by_cases h2:n=m
  ·subst h2;rw[M_ a_,hb2];simp
  rw[I_ a_,θ h2];simp
theorem mT{l:List Int}(hb:cR l=true)(hl:l.length≤64){k:Nat}(hk:1000<k):∃M,cY.f k l=some M∧gW M fun m=>(l.getD m 0).toNat:=by
 unfold cY.f
 rw[aF NL]
 have:=B5 hb hl l.length 0 k (List.replicate 8 0) a_ a_ j_ fun m hm=>by
  rw[I_ (ET _)];simp[ln]
 exact this
theorem Mv{k a b:Nat}(ha:a<256)(hb:b<256)(hk:1000<k):nK.f k (a:Int) (b:Int)=some ((br a b:Nat):Int):=by
 have hA:cR [(a:Int)]=true:=ZU
 have hB:cR [(b:Int)]=true:=ZU
 obtain⟨A,e1,l1⟩:=mT hA j_ hk
 obtain⟨B,e2,l2⟩:=mT hB j_ hk
 obtain⟨C,e3,l3⟩:=tG l1 l2 (k:=k) a_
 have e4:=tE l3 (n:=0) (k:=k) f_ a_
 unfold nK.f
 rw[e1,aJ,e2,aJ,e3,aJ,show(0:Int)=((0:Nat):Int) from rfl,e4,aJ]
 simp
theorem AD{a:Nat}(ha:a<256)(m:Nat):br (bD a m) (bD a m)=bD a (2*m):=by rw[←lD ha];congr 1;omega
theorem BL{a:Nat}(ha:a<256):∀(d i k:Nat)(L M:List Int)(f g:Nat→Nat),i+d=7→400+d<k→gW L f→gW M g→f 0=bD a (2^i)→g 0=bD a (2^(i+1)-2)→
 ft.l0 k L M (i:Int)=some (((jM a:Nat):Int),true)
 |d,_,0,_,_,_,_,_,h,_,_,_,_=>a_
 |0,i,k+1,L,M,f,g,hi,hk,h1,h2,h3,h4=>by
  obtain rfl:i=7:=a_
  have e:=tE h2 (n:=0) (k:=k) f_ a_
  rw[ft.l0,aQ a_]
  unfold ft.j0
  rw[show(0:Int)=((0:Nat):Int) from rfl,e,aJ,h4];rfl
 |d+1,i,k+1,L,M,f,g,hi,hk,h1,h2,h3,h4=>by
  obtain⟨A,e1,l1⟩:=Bo h1 (k:=k) a_
  obtain⟨B,e2,l2⟩:=tG h2 l1 (k:=k) a_
  have hp:2^(i+1)=2*2^i:=by rw[FI,FX]
  have hp2:2^(i+1+1)=2*2^(i+1):=by rw[FI,FX]
  have hpos:=KY i
  rw[ft.l0,bh a_,e1,aJ,aF (kT l1),e2,aJ,aF (kT l2),bT a_]
  refine BL ha d (i+1) k A B _ _ a_ a_ l1 l2 ?_ ?_
  ·show br (f 0) (f 0)=_
   rw[h3,AD ha,hp]
  show br (g 0) (br (f 0) (f 0))=_
  rw[h3,h4,AD ha,←lD ha];congr 1;omega
theorem Mu{k a:Nat}(ha:a<256)(hk:1000<k):ft.f k (a:Int)=some (if a=0 then(0,false)else(((jM a:Nat):Int),true)):=by
 unfold ft.f
 by_cases h0:a=0
 ·subst h0;rw[bh EJ,M_ rfl]
 have hA:cR [(a:Int)]=true:=ZU
 obtain⟨A,e1,l1⟩:=mT hA j_ hk
 obtain⟨B,e2,l2⟩:=mT (l:=[1]) rfl j_ hk
 rw[aQ a_,I_ h0,e1,aJ,aF (kT l1),e2,aJ,aF (kT l2)]
 refine BL ha 7 0 k A B _ _ rfl a_ l1 l2 ?_ ?_
 ·show((a:Int)).toNat=bD a 1
  rw[bD,bD,kQ ha];simp
 rfl
theorem wD{a:Nat}(ha:a<256):∀(s m k:Nat)(L M:List Int)(f g:Nat→Nat),m≤s→400+m<k→m<256→gW L f→gW M g→f 0<256→g 0<256→
 da.l0 k L M (m:Int)=some ((br (g 0) (bD (f 0) m):Nat):Int)
 |s,m,0,_,_,_,_,_,h,_,_,_,_,_=>a_
 |s,0,k+1,L,M,f,g,_,hk,_,h1,h2,h3,h4=>by
  have e:=tE h2 (n:=0) (k:=k) f_ a_
  rw[da.l0,aQ a_,show(0:Int)=((0:Nat):Int) from rfl,e,aJ,bD,mA]
 |0,m+1,k+1,_,_,_,_,h,_,_,_,_,_,_=>a_
 |s+1,m+1,k+1,L,M,f,g,hm,hk,hm2,h1,h2,h3,h4=>by
  obtain⟨A,e1,l1⟩:=Bo h1 (k:=k) a_
  obtain⟨B,e2,l2⟩:=tG h2 h1 (k:=k) a_
  have hd:Int.fdiv ((m+1:Nat):Int) (2^min (1:Int).toNat 64)=(((m+1)/2:Nat):Int):=zV (m+1) 1
  have hb:bits .and .i64 ((m+1:Nat):Int) 1=(((m+1)%2:Nat):Int):=by
   have h:fB (fun b=>decide (bits .and .i64 (b:Int) 1=((b%2:Nat):Int)))=true:=R_
   exact aT (fM h hm2)
  have hsq:f 0<256:=h3
  have hff:br (f 0) (f 0)<256:=mz _ h3
  have hpw:∀q,bD (br (f 0) (f 0)) q=bD (f 0) (2*q):=fun q=>by
   rw[kR h3];congr 1
   show br (f 0) (f 0)=br (br 1 (f 0)) (f 0)
   rw[kQ h3]
  rw[da.l0,bh a_,hb]
  by_cases ho:(m+1)%2=1
  ·rw[bh a_,e2,aJ,aF (kT l2),e1,aJ,aF (kT l1),hd]
   rw[wD ha s ((m+1)/2) k A B _ _ a_ a_ a_ l1 l2 hff (mz _ h4)]
   congr 2
   show br (br (g 0) (f 0)) (bD (br (f 0) (f 0)) ((m+1)/2))=_
   rw[hpw,tj _ h4 h3]
   congr 1
   have e:br (f 0) (bD (f 0) (2*((m+1)/2)))=bD (f 0) (1+2*((m+1)/2)):=by
    rw[lD h3,bD,bD,kQ h3]
   rw[e];congr 1;omega
  rw[aQ a_,e1,aJ,aF (kT l1),hd]
  rw[wD ha s ((m+1)/2) k A M _ _ a_ a_ a_ l1 h2 hff h4]
  congr 2
  show br (g 0) (bD (br (f 0) (f 0)) ((m+1)/2))=_
  rw[hpw];congr 2;omega
theorem Mz{k a:Nat}(ha:a<256)(hk:1000<k){n:Int}(h0: -9223372036854775808≤n)(h1:n≤9223372036854775807):da.f k (a:Int) n=some (jN a n):=by
 have hlo:=P8 n (by decide:(255:Int)≠0)
 have hhi:=NV n (by decide:(0:Int)<255)
 have hA:cR [(a:Int)]=true:=ZU
 have j0:da.j0 (da.l0 k) k (a:Int) n=some ((bD a (n%255).toNat:Nat):Int):=by
  obtain⟨m,hm⟩:∃m:Nat,n%255=m:=⟨(n%255).toNat,a_⟩
  have hj:da.j1 (da.l0 k) k (a:Int) (m:Int)=some ((bD a m:Nat):Int):=by
   obtain⟨A,e1,l1⟩:=mT hA j_ hk
   obtain⟨B,e2,l2⟩:=mT (l:=[1]) rfl j_ hk
   unfold da.j1
   rw[e1,aJ,e2,aJ,aF (kT l1),aF (kT l2),wD ha m m k A B _ _ (aI _) a_ a_ l1 l2 (by simpa using ha) f_]
   have e:br 1 (bD a m)=bD a m:=kQ (iP ha m)
   show some ((br 1 (bD (a:Int).toNat m):Nat):Int)=_
   rw[n_,e]
  have hl:=tF h0 h1
  unfold kE.f at hl
  unfold da.j0
  by_cases hn:Int.tmod n 255<0
  ·rw[bh hn]at hl⊢
   rw[FP hl,hm,hj];simp
  rw[aQ hn]at hl⊢
  rw[FP hl,hm,hj];simp
 unfold da.f jN
 by_cases ha0:a=0
 ·subst ha0
  rw[bh EJ]
  by_cases hn:n=0
  ·subst hn;rw[cH rfl,j0];rfl
  rw[kg hn];simp[hn]
 rw[aQ a_,j0,I_ a_];simp
theorem DN{L:List Int}{f:Nat→Nat}(h:gW L f):∀(d n k:Nat),n+d=64→100+d<k→
 ia.l0 k L ((List.range 64).map fun m=>if m<n then((f m:Nat):Int)else 0) (n:Int)=some ((List.range 64).map fun m=>((f m:Nat):Int))
 |d,_,0,_,hk=>a_
 |0,n,k+1,hn,hk=>by
  obtain rfl:n=64:=a_
  rw[ia.l0,aQ f_]
  exact L_ some (Rw fun m hm=>M_ (φ.1 hm))
 |d+1,n,k+1,hn,hk=>by
  have e:=tE h (n:=n) (k:=k) a_ a_
  rw[ia.l0,bh l_,e,aJ,aF l_,bT a_]
  rw[←DN h d (n+1) k a_ a_]
  congr 1
  apply Fq j_
  intro m h1 h2
  simp only[LV,Fj,FN,n_]
  by_cases e1:n=m
  ·subst e1;rw[M_ rfl,M_ a_]
  rw[I_ e1]
  by_cases e2:m<n
  ·rw[M_ e2,M_ a_]
  rw[I_ e2,I_ a_]
theorem Qo{L:List Int}{f:Nat→Nat}(h:gW L f){k:Nat}(hk:200<k):ia.f k L=some ((List.range 64).map fun m=>((f m:Nat):Int)):=by
 unfold ia.f
 rw[aF (kT h),aF f_]
 have e:List.replicate (64:Int).toNat (0:Int)=(List.range 64).map fun m=>if m<0 then((f m:Nat):Int)else 0:=by
  apply Fq j_
  intro j h1 h2
  rw[Ot,Fj,I_ (ET _)]
 rw[e]
 exact DN h 64 0 k a_ a_
theorem yF{l:List Int}(n:Nat)(h:cR l=true):cR (l.drop n)=true:=Y_.2 fun a ha=>Y_.1 h a (List.mem_of_mem_drop ha)
theorem BM{l m:List Int}(hl:cR l=true)(hm:cR m=true)(hlen:m.length=l.length)(hb:l.length≤140737488355328):∀(d j k:Nat),l.length≤j+64*d→2000+d<k→
 hX.l0 k l m ((List.zipWith gm l m).take j) (j:Int)=some (List.zipWith gm l m)∨l.length<j
 |d,_,0,_,hk=>a_
 |d,j,k+1,hj,hk=>by
  by_cases hgt:l.length<j
  ·exact .inr hgt
  left
  have hz:(List.zipWith gm l m).length=l.length:=by simp[hlen]
  by_cases hlt:j<l.length
  ·match d,hj,hk with
   |0,hj,hk=>omega
   |d+1,hj,hk=>
   rw[hX.l0,bh a_,aF a_]
   have eL:((l.take l.length).drop (j:Int).toNat).length=l.length-j:=j_
   let c:=min 64 (l.length-j)
   have ec:min2 64 ((l.length-j:Nat):Int)=((c:Nat):Int):=by unfold min2;split<;>simp only[c]<;>omega
   have eH:I W ((j:Int)+((c:Nat):Int))=((j+c:Nat):Int):=by
    rw[ca ZL ZL];omega
   have eP:((l.take ((j+c:Nat):Int).toNat).drop (j:Int).toNat).length=c:=aaH
   have eT:((List.zipWith gm l m).take j).length=j:=by simp[hlen];omega
   rw[eL,ec,eH,aF ZL,eP,eT,eH,aF ZL]
   have b1:cR ((l.take ((j+c:Nat):Int).toNat).drop (j:Int).toNat)=true:=yF _ (mh _ hl)
   have b2:cR ((m.take ((j+c:Nat):Int).toNat).drop (j:Int).toNat)=true:=yF _ (mh _ hm)
   obtain⟨A,e1,l1⟩:=mT b1 (by rw[eP];simp only[c];omega) (k:=k) a_
   obtain⟨B,e2,l2⟩:=mT b2 aaH (k:=k) a_
   obtain⟨C,e3,l3⟩:=tG l1 l2 (k:=k) a_
   have e4:=Qo l3 (k:=k) a_
   rw[e1,aJ,e2,aJ,e3,aJ,e4,aJ,aF aaH,aF aaH]
   have w:I W ((j:Int)+64)=((j+64:Nat):Int):=by rw[ca a_ a_];omega
   rw[w]
   have key:(List.zipWith gm l m).take j++(((List.range 64).map fun n=>((br (((l.take ((j+c:Nat):Int).toNat).drop (j:Int).toNat).getD n 0).toNat (((m.take ((j+c:Nat):Int).toNat).drop (j:Int).toNat).getD n 0).toNat:Nat):Int)).take ((c:Nat):Int).toNat).drop 0=(List.zipWith gm l m).take (j+64):=by
    apply Fq (by simp[hlen,c];omega)
    intro i h1 h2
    have hi:i<l.length:=by simp[hlen]at h2;omega
    by_cases hij:i<j
    ·rw[List.getElem_append_left (by rw[eT];exact hij)]
     simp
    rw[abk (by rw[eT];omega)]
    simp only[eT,Γ,List.getElem_take,Fj,FN,LM]
    have g1:((l.take ((j+c:Nat):Int).toNat).drop (j:Int).toNat).getD (i-j) 0=l[i]:=by
     simp only[bF,IE,n_,Ac]
     rw[show j+(i-j)=i by omega,M_ (by simp[hlen]at h2;simp only[c];omega),C_ hi];rfl
    have g2:((m.take ((j+c:Nat):Int).toNat).drop (j:Int).toNat).getD (i-j) 0=m[i]:=by
     simp only[bF,IE,n_,Ac]
     rw[show j+(i-j)=i by omega,M_ (by simp[hlen]at h2;simp only[c];omega),C_ a_];rfl
    rw[g1,g2];rfl
   rw[key]
   by_cases hend:l.length<j+64
   ·
    match k,hk with
    |0,hk=>omega
    |k+1,hk=>
    rw[hX.l0,aQ a_,D_ (by rw[hz];omega)]
   exact(BM hl hm hlen hb d (j+64) k a_ a_).resolve_right a_
  rw[hX.l0,aQ a_,D_ (by rw[hz];omega)]
theorem IM{k:Nat}{l m:List Int}(hl:cR l=true)(hm:cR m=true)(hb:l.length≤140737488355328)(hk:l.length+65540<k):pD.f k l m=some (List.zipWith gm l m):=by
 unfold pD.f
 have e:min2 (l.length:Int) (m.length:Int)=((min l.length m.length:Nat):Int):=NL
 rw[e]
 by_cases h0:min l.length m.length=0
 ·rw[bh a_]
  rcases Rk.1 h0 with h|h
  ·rw[IJ.1 h];rfl
  rw[IJ.1 h];simp
 rw[aQ a_,aF a_,aF a_]
 simp only[n_,Γ]
 unfold hX.f
 have hle:(l.take (min l.length m.length)).length=min l.length m.length:=j_
 have hle2:(m.take (min l.length m.length)).length=min l.length m.length:=j_
 rw[aF a_]
 have:=(BM (l:=l.take (min l.length m.length)) (m:=m.take (min l.length m.length)) (mh _ hl) (mh _ hm) a_ a_ (l.length+1) 0 k a_ a_).resolve_right a_
 rw[show((0:Nat):Int)=0 from rfl,bP]at this
 rw[show List.replicate (0:Int).toNat (0:Int)=[] from rfl,this,x0];rfl
variable[de]
theorem tk{α:Type}{b:Bool}{x:Option α}{r:α}(h:an b x=some r):b=true∧x=some r:=by
 unfold an at h
 cases b with
 |true=>exact⟨rfl,h⟩
 |false=>cases h
theorem td{w:World}{f:FD}{m:Bool}(h1:¬f.p=3)(hb:(Rs.blk f.p (nI f) 186).inv w)(h2:¬f.p=f.t)(ht:(Rs.cn f.t m).inv w):St (Rs.ah f).fp w w [.blk f.p (nI f) 186,.cn f.t m]:=by
 refine⟨.refl _ _,?_,?_,?_⟩
 ·intro r hr
  rcases X_.1 hr with rfl|hr
  ·exact hb
  rw[Q_.1 hr];exact ht
 ·intro r hr b hbf
  rcases X_.1 hr with rfl|hr
  ·exact .inr (.inl hbf)
  rw[Q_.1 hr]at hbf;exact .inr (.inr hbf)
 refine Ξ.2 ⟨fun s hs b x y=>?_,Dc _ _⟩
 rw[Q_.1 hs]at y
 have x':b=f.p:=x
 rcases(y:b=f.t∨b=3)with y|y
 ·exact h2 (x'.symm.trans y)
 exact h1 (x'.symm.trans y)
theorem s9{X:Nat→Prop}{w0 w:World}{f:FD}{m:Bool}{R:List Rs}(hk:f.k=1)(h1:¬f.p=3)(h2:¬f.p=f.t)(H:St X w0 w (.blk f.p (nI f) 186:: .cn f.t m::R)):St X w0 w (.ah f::R):=by
 have hb:=H.Gt 0 rfl
 have ht:=H.Gt 1 rfl
 obtain⟨d1,d2⟩:=Ξ.1 H.dj
 obtain⟨d3,d4⟩:=Ξ.1 d2
 refine⟨H.ch,?_,?_,?_⟩
 ·intro r hr
  rcases X_.1 hr with rfl|hr
  ·exact⟨ht.1,h1,.inl ⟨hk,hb,h2,m,ht⟩⟩
  exact H.inv r (o_ _ (o_ _ hr))
 ·intro r hr b hbf
  rcases X_.1 hr with rfl|hr
  ·rcases(hbf:b=f.p∨b=f.t∨b=3)with x|x
   ·exact H.fp _ H_ b x
   exact H.fp _ (o_ _ H_) b x
  exact H.fp r (o_ _ (o_ _ hr)) b hbf
 refine Ξ.2 ⟨fun s hs b x y=>?_,d4⟩
 rcases(x:b=f.p∨b=f.t∨b=3)with x|x
 ·exact d1 s (o_ _ hs) b x y
 exact d3 s hs b x y
theorem tc{w:World}{f:FD}(hg:Rs.gt.inv w)(h1:¬f.p=3)(hb:(Rs.blk f.p jI 186).inv w)(h2:f.t=f.p):St (Rs.ah f).fp w w [.blk f.p jI 186,.gt]:=by
 refine⟨.refl _ _,?_,?_,?_⟩
 ·intro r hr
  rcases X_.1 hr with rfl|hr
  ·exact hb
  rw[Q_.1 hr];exact hg
 ·intro r hr b hbf
  rcases X_.1 hr with rfl|hr
  ·exact .inr (.inl hbf)
  rw[Q_.1 hr]at hbf;exact .inr (.inr (.inr hbf))
 refine Ξ.2 ⟨fun s hs b x y=>?_,Dc _ _⟩
 rw[Q_.1 hs]at y
 have x':b=f.p:=x
 have y':b=3:=y
 exact h1 (x'.symm.trans y')
theorem s8{X:Nat→Prop}{w0 w:World}{f:FD}{R:List Rs}(hk:f.k=2)(h1:¬f.p=3)(h2:f.t=f.p)(H:St X w0 w (.blk f.p jI 186:: .gt::R)):St X w0 w (.ah f::R):=by
 have hb:=H.Gt 0 rfl
 have hg:=H.Gt 1 rfl
 obtain⟨d1,d2⟩:=Ξ.1 H.dj
 obtain⟨d3,d4⟩:=Ξ.1 d2
 have key:∀b,(Rs.ah f).fp b→(Rs.blk f.p jI 186).fp b∨Rs.gt.fp b:=fun b h=>by
  rcases(h:b=f.p∨b=f.t∨b=3)with x|x|x
  ·exact .inl x
  ·exact .inl (x.trans h2)
  exact .inr x
 refine⟨H.ch,?_,?_,?_⟩
 ·intro r hr
  rcases X_.1 hr with rfl|hr
  ·exact⟨hg,h1,.inr (.inl ⟨hk,hb,h2⟩)⟩
  exact H.inv r (o_ _ (o_ _ hr))
 ·intro r hr b hbf
  rcases X_.1 hr with rfl|hr
  ·rcases key b hbf with x|x
   ·exact H.fp _ H_ b x
   exact H.fp _ (o_ _ H_) b x
  exact H.fp r (o_ _ (o_ _ hr)) b hbf
 refine Ξ.2 ⟨fun s hs b x y=>?_,d4⟩
 rcases key b x with x|x
 ·exact d1 s (o_ _ hs) b x y
 exact d3 s hs b x y
theorem ta{w:World}{f:FD}(hg:Rs.gt.inv w)(h1:¬f.p=3)(hb:(Rs.blk f.p lC 186).inv w)(h2:f.t=f.p):St (Rs.ah f).fp w w [.blk f.p lC 186,.gt]:=by
 refine⟨.refl _ _,?_,?_,?_⟩
 ·intro r hr
  rcases X_.1 hr with rfl|hr
  ·exact hb
  rw[Q_.1 hr];exact hg
 ·intro r hr b hbf
  rcases X_.1 hr with rfl|hr
  ·exact .inr (.inl hbf)
  rw[Q_.1 hr]at hbf;exact .inr (.inr (.inr hbf))
 refine Ξ.2 ⟨fun s hs b x y=>?_,Dc _ _⟩
 rw[Q_.1 hs]at y
 have x':b=f.p:=x
 have y':b=3:=y
 exact h1 (x'.symm.trans y')
theorem sZ{X:Nat→Prop}{w0 w:World}{f:FD}{R:List Rs}(hk:f.k=3)(h1:¬f.p=3)(h2:f.t=f.p)(H:St X w0 w (.blk f.p lC 186:: .gt::R)):St X w0 w (.ah f::R):=by
 have hb:=H.Gt 0 rfl
 have hg:=H.Gt 1 rfl
 obtain⟨d1,d2⟩:=Ξ.1 H.dj
 obtain⟨d3,d4⟩:=Ξ.1 d2
 have key:∀b,(Rs.ah f).fp b→(Rs.blk f.p lC 186).fp b∨Rs.gt.fp b:=fun b h=>by
  rcases(h:b=f.p∨b=f.t∨b=3)with x|x|x
  ·exact .inl x
  ·exact .inl (x.trans h2)
  exact .inr x
 refine⟨H.ch,?_,?_,?_⟩
 ·intro r hr
  rcases X_.1 hr with rfl|hr
  ·exact⟨hg,h1,.inr (.inr ⟨hk,hb,h2⟩)⟩
  exact H.inv r (o_ _ (o_ _ hr))
 ·intro r hr b hbf
  rcases X_.1 hr with rfl|hr
  ·rcases key b hbf with x|x
   ·exact H.fp _ H_ b x
   exact H.fp _ (o_ _ H_) b x
  exact H.fp r (o_ _ (o_ _ hr)) b hbf
 refine Ξ.2 ⟨fun s hs b x y=>?_,d4⟩
 rcases key b x with x|x
 ·exact d1 s (o_ _ hs) b x y
 exact d3 s hs b x y
theorem gp.calls{w0:World}{f0_:FD}{a1 a2 r:Int}(hf:(Rs.ah f0_).inv w0)(E:gp.f a1 a2=some r):
 Calls Tryz.prog 232 #[.pointer (some ⟨f0_.p,0,none⟩),.int .u8 a1,.int .u8 a2] w0 fun e w'=>e= .returned (.int .u8 r)∧St (Rs.ah f0_).fp w0 w' [.ah f0_]:=by
 unfold gp.f at E
 obtain⟨g,E⟩:=tk E
 rw[S_]at g
 obtain⟨a,rfl,ha⟩:=oW g.1
 obtain⟨b,rfl,hb⟩:=oW g.2
 cases E
 have e:gm (a:Int) (b:Int)=((br a b:Nat):Int):=by simp[gm]
 obtain⟨hg,h1,⟨hk,hb,h2,m,ht⟩|⟨hk,hb,h2⟩|⟨hk,hb,h2⟩⟩:=hf
 ·refine(rm.calls (td h1 hb h2 ht) (r:=((br a b:Nat):Int)) (by unfold rm.f;rw[DG ha (by assumption)];rfl)).mono ?_
  rintro _ w ⟨m,rfl,K⟩
  exact⟨by rw[e],s9 hk h1 h2 K⟩
 ·refine(rl.calls (k:=100000) (tc hg h1 hb h2) (r:=((br a b:Nat):Int)) (by unfold rl.f kP.f;rw[rY ha (by assumption) f_];rfl)).mono ?_
  rintro _ w ⟨rfl,K⟩
  exact⟨by rw[e],s8 hk h1 h2 K⟩
 refine(rk.calls (k:=100000) (ta hg h1 hb h2) (r:=((br a b:Nat):Int)) (by unfold rk.f;rw[Mv ha (by assumption) f_];rfl)).mono ?_
 rintro _ w ⟨rfl,K⟩
 exact⟨by rw[e],sZ hk h1 h2 K⟩
theorem fN.calls{w0:World}{f0_:FD}{a1:Int}{r:Int×Bool}(hf:(Rs.ah f0_).inv w0)(E:fN.f a1=some r):
 Calls Tryz.prog 253 #[.pointer (some ⟨f0_.p,0,none⟩),.int .u8 a1] w0 fun e w'=>e= .returned (.tuple #[.int .u8 r.1,.bool r.2])∧St (Rs.ah f0_).fp w0 w' [.ah f0_]:=by
 unfold fN.f at E
 obtain⟨g,E⟩:=tk E
 obtain⟨a,rfl,ha⟩:=oW g
 have e:(if a=0 then((0:Int),false)else(((jM a:Nat):Int),true))=r:=by
  have:=FP E
  rw[←this];simp only[n_];by_cases h0:a=0<;>simp[h0]
 obtain⟨hg,h1,⟨hk,hb,h2,m,ht⟩|⟨hk,hb,h2⟩|⟨hk,hb,h2⟩⟩:=hf
 ·refine(rh.calls (td h1 hb h2 ht) (r:=r) (by unfold rh.f;rw[Qh ha,e];rfl)).mono ?_
  rintro _ w ⟨m,rfl,K⟩
  exact⟨rfl,s9 hk h1 h2 K⟩
 ·refine(rf.calls (k:=100000) (tc hg h1 hb h2) (r:=r) (by unfold rf.f;rw[PD ha f_,e];rfl)).mono ?_
  rintro _ w ⟨rfl,K⟩
  exact⟨rfl,s8 hk h1 h2 K⟩
 refine(re.calls (k:=100000) (ta hg h1 hb h2) (r:=r) (by unfold re.f;rw[Mu ha f_,e];rfl)).mono ?_
 rintro _ w ⟨rfl,K⟩
 exact⟨rfl,sZ hk h1 h2 K⟩
theorem jK.calls{w0:World}{f0_:FD}{a1 a2 r:Int}(hf:(Rs.ah f0_).inv w0)(E:jK.f a1 a2=some r):
 Calls Tryz.prog 234 #[.pointer (some ⟨f0_.p,0,none⟩),.int .u8 a1,.int .i64 a2] w0 fun e w'=>e= .returned (.int .u8 r)∧St (Rs.ah f0_).fp w0 w' [.ah f0_]:=by
 unfold jK.f at E
 obtain⟨g,E⟩:=tk E
 rw[S_,Ny]at g
 obtain⟨a,rfl,ha⟩:=oW g.1
 cases E
 obtain⟨hg,h1,⟨hk,hb,h2,m,ht⟩|⟨hk,hb,h2⟩|⟨hk,hb,h2⟩⟩:=hf
 ·refine(rr.calls (td h1 hb h2 ht) (r:=jN a a2) (by unfold rr.f;rw[Qj ha g.2.1 g.2.2];rfl)).mono ?_
  rintro _ w ⟨m,rfl,K⟩
  exact⟨rfl,s9 hk h1 h2 K⟩
 ·refine(rq.calls (k:=100000) (tc hg h1 hb h2) (r:=jN a a2) (by unfold rq.f;rw[PK ha f_ g.2.1 g.2.2];rfl)).mono ?_
  rintro _ w ⟨rfl,K⟩
  exact⟨rfl,s8 hk h1 h2 K⟩
 refine(rp.calls (k:=100000) (ta hg h1 hb h2) (r:=jN a a2) (by unfold rp.f;rw[Mz ha f_ g.2.1 g.2.2];rfl)).mono ?_
 rintro _ w ⟨rfl,K⟩
 exact⟨rfl,sZ hk h1 h2 K⟩
theorem jJ.calls{w0:World}{f0_:FD}{a1 a2:List Int}{v1_ v2_:Value}{r:List Int}(hf:(Rs.ah f0_).inv w0)(h1:Rd (.of (.int .u8)) w0 (Ol (Rs.ah f0_).fp w0) v1_ a1)(h2:Rd (.of (.int .u8)) w0 (Ol (Rs.ah f0_).fp w0) v2_ a2)(E:jJ.f a1 a2=some r):
 Calls Tryz.prog 280 #[.pointer (some ⟨f0_.p,0,none⟩),v1_,v2_] w0 fun e w'=>∃u0:Value,e= .returned u0∧St (Rs.ah f0_).fp w0 w' [.ah f0_,.own (.int .u8) 5 u0 r]:=by
 unfold jJ.f at E
 obtain⟨g,E⟩:=tk E
 rw[S_,S_,Ny]at g
 cases E
 obtain⟨hg,q1,⟨hk,hb,q2,m,ht⟩|⟨hk,hb,q2⟩|⟨hk,hb,q2⟩⟩:=hf
 ·refine(pG.calls (k:=200000000000000) (td q1 hb q2 ht) h1 h2 (IQ g.1.1 g.1.2 g.2 a_)).mono ?_
  rintro _ w ⟨m,u,rfl,K⟩
  exact⟨u,rfl,s9 hk q1 q2 K⟩
 ·refine(pE.calls (k:=200000000000000) (tc hg q1 hb q2) h1 h2 (IP g.1.1 g.1.2 g.2 a_)).mono ?_
  rintro _ w ⟨u,rfl,K⟩
  exact⟨u,rfl,s8 hk q1 q2 K⟩
 refine(pD.calls (k:=200000000000000) (ta hg q1 hb q2) h1 h2 (IM g.1.1 g.1.2 g.2 a_)).mono ?_
 rintro _ w ⟨u,rfl,K⟩
 exact⟨u,rfl,sZ hk q1 q2 K⟩
end Go.Proofs.YtmhkpafkadijgaaGreatDoor.Gw
