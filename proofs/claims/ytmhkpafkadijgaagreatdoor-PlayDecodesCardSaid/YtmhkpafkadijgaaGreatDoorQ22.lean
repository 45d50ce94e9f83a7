/- A part of the proof of Rows.PlayDecodesCardSaid; the conditions are that card's own. -/
import Derived.Test.YtmhkpafkadijgaaGreatDoorQ13
import Derived.Shelf.LaysM
import Derived.Shelf.Strings.Builder1
import Derived.Shelf.Strings.OnBuilder
import Derived.Shelf.Strconv.Atoi
import Derived.Shelf.Strconv.Itoa3
import Derived.Shelf.Strings.Split
import Derived.Shelf.Slices.Delete
import Derived.Shelf.Strings.SlTrimAscii
import Derived.Ground.Names2Prog
import Derived.Lib.AppendStr
import Derived.Lib.OthersKept
import Derived.Shelf.Strings.BuilderK
import Derived.Lib.AppendIntMem
import Derived.Lib.SmallJoins
set_option linter.all false
set_option maxRecDepth 100000
set_option maxHeartbeats 4000000
namespace Go.Proofs.YtmhkpafkadijgaaGreatDoor.Gw
structure GF where
 val:Nat
 lt:val<256
namespace GF
theorem ext{a b:GF}(h:a.1=b.1):a=b:=by
 cases a;cases b;cases h;rfl
instance:DecidableEq GF:=fun a b=>if h:a.1=b.1 then .isTrue (ext h)else .isFalse fun e=>h (L_ GF.val e)
def add(a b:GF):GF:=⟨a.1^^^b.1,D5 a.2 b.2⟩
def mul(a b:GF):GF:=⟨br a.1 b.1,mz _ a.2⟩
instance:Add GF:=⟨add⟩
instance:Mul GF:=⟨mul⟩
instance:OfNat GF 0:=⟨⟨0,f_⟩⟩
instance:OfNat GF 1:=⟨⟨1,f_⟩⟩
instance:Inhabited GF:=⟨0⟩
theorem BE(a b:GF):(a*b).1=br a.1 b.1:=rfl
@[simp] theorem YP:(0:GF).1=0:=rfl
@[simp] theorem YS:(1:GF).1=1:=rfl
theorem add_comm(a b:GF):a+b=b+a:=ext (Nat.xor_comm _ _)
theorem add_assoc(a b c:GF):a+b+c=a+(b+c):=ext (FQ _ _ _)
theorem eE(a:GF):a+a=0:=ext (aaJ _)
theorem add_zero(a:GF):a+0=a:=ext (Zw _)
theorem zero_add(a:GF):0+a=a:=ext (LZ _)
theorem mul_comm(a b:GF):a*b=b*a:=ext (pI a.2 b.2)
theorem mul_assoc(a b c:GF):a*b*c=a*(b*c):=ext (tj _ a.2 b.2)
theorem mul_one(a:GF):a*1=a:=ext mA
theorem one_mul(a:GF):1*a=a:=ext (kQ a.2)
theorem mul_zero(a:GF):a*0=0:=ext (pJ _)
theorem zero_mul(a:GF):0*a=0:=ext (Av a.2)
theorem mul_add(a b c:GF):a*(b+c)=a*b+a*c:=ext (vK _ _ _)
theorem add_mul(a b c:GF):(a+b)*c=a*c+b*c:=ext (I6 _ a.2 b.2)
instance:Std.Associative (α:=GF) (·+ ·):=⟨add_assoc⟩
instance:Std.Commutative (α:=GF) (·+ ·):=⟨add_comm⟩
instance:Std.Associative (α:=GF) (·* ·):=⟨mul_assoc⟩
instance:Std.Commutative (α:=GF) (·* ·):=⟨mul_comm⟩
theorem me(a b:GF):a+(a+b)=b:=by rw[←add_assoc,eE,zero_add]
theorem lB{a b:GF}(h:a+b=0):a=b:=by
 have:=L_ (a+ ·) h
 simp only[me,add_zero]at this
 exact this.symm
def inv(a:GF):GF:=⟨jM a.1,iP a.2 254⟩
theorem gN{a:GF}(h:a≠0):a*inv a=1:=ext (I4 a.2 fun e=>h (ext e))
theorem mul_eq_zero{a b:GF}(h:a*b=0):a=0∨b=0:=by
 by_cases ha:a=0
 ·exact .inl ha
 right
 have:=L_ (inv a* ·) h
 simp only[mul_zero]at this
 rw[←mul_assoc,mul_comm (inv a),gN ha,one_mul]at this
 exact this
def pow(a:GF):Nat→GF
 |0=>1
 |k+1=>pow a k*a
theorem jW(a:GF):∀k,(pow a k).1=bD a.1 k
 |0=>rfl
 |k+1=>by show br (pow a k).1 a.1=_;rw[jW a k];rfl
theorem pow_add(a:GF)(m n:Nat):pow a (m+n)=pow a m*pow a n:=ext (by rw[BE,jW,jW,jW,lD a.2])
theorem pow_one(a:GF):pow a 1=a:=by rw[pow,pow,one_mul]
end GF
open GF
def pv:List GF→GF→GF
 | [],_=>0
 |c::p,x=>c+x*pv p x
theorem fS(x:GF):∀p q:List GF,pv (p++q) x=pv p x+pow x p.length*pv q x
 | [],q=>by simp[pv,pow,one_mul,zero_add]
 |c::p,q=>by
  rw[Bv,pv,pv,fS x p q,r_,pow,mul_add,add_assoc]
  congr 2
  ac_rfl
theorem ic(x:GF):∀n,pv (List.replicate n 0) x=0
 |0=>rfl
 |n+1=>by rw[FU,pv,ic x n,mul_zero,zero_add]
theorem ub(x c:GF):∀(p:List GF)(j:Nat),j<p.length→pv (p.set j c) x=pv p x+pow x j*(p.getD j 0+c)
 | [],_,h=>aS
 |d::p,0,_=>by
  simp only[FM,pv,pow,one_mul,LP]
  rw[show d+x*pv p x+(d+c)=(d+(d+c))+x*pv p x by ac_rfl,me]
 |d::p,j+1,h=>by
  simp only[ZF,pv,pow,bY]
  rw[ub x c p j sW,mul_add,←add_assoc]
  congr 1
  ac_rfl
def fL:Nat→List GF→List GF→List GF
 |_,[],p=>p
 |b,c::q,p=>fL (b+1) q (p.set b (p.getD b 0+c))
theorem j9:∀(q:List GF)(b:Nat)(p:List GF),(fL b q p).length=p.length
 | [],_,_=>rfl
 |c::q,b,p=>by rw[fL,j9 q];simp
theorem rQ(x:GF):∀(q:List GF)(b:Nat)(p:List GF),b+q.length≤p.length→pv (fL b q p) x=pv p x+pow x b*pv q x
 | [],b,p,_=>by rw[fL,pv,mul_zero,add_zero]
 |c::q,b,p,h=>by
  simp only[r_]at h
  rw[fL,rQ x q (b+1) _ l_,ub x _ p b a_,me,pv,mul_add,←add_assoc]
  congr 1
  rw[pow];ac_rfl
theorem sy:∀(q:List GF)(b:Nat)(p:List GF)(j:Nat),b+q.length≤p.length→(fL b q p).getD j 0=p.getD j 0+(if b≤j∧j<b+q.length then q.getD (j-b) 0 else 0)
 | [],b,p,j,_=>by
  rw[fL,I_ j_,add_zero]
 |c::q,b,p,j,h=>by
  simp only[r_]at h⊢
  rw[fL,sy q (b+1) _ j l_]
  by_cases hj:j=b
  ·subst hj
   rw[I_ a_,M_ a_,Ff,add_zero]
   simp[bF,Lp,show j<p.length by omega]
  have e:(p.set b (p.getD b 0+c)).getD j 0=p.getD j 0:=by
   simp[bF,Lp,show ¬b=j from fun e=>hj e.symm]
  rw[e]
  by_cases h2:b+1≤j∧j<b+1+q.length
  ·rw[M_ h2,M_ a_,show j-b=(j-(b+1))+1 by omega,bY]
  rw[I_ h2,I_ a_]
def aW(p:List GF):List GF:=(p.reverse.dropWhile (fun c=>decide (c=0))).reverse
theorem tP:aW []=[]:=rfl
theorem jm(p:List GF)(c:GF):aW (p++[c])=if c=0 then aW p else p++[c]:=by
 unfold aW
 rw[List.reverse_append,List.reverse_singleton,List.singleton_append,List.dropWhile_cons]
 by_cases h:c=0
 ·simp[h]
 simp[h]
theorem oe:∀(n:Nat)(p:List GF),p.length=n→∃m,p=aW p++List.replicate m 0∧(aW p).length+m=n
 |0,p,h=>by
  obtain rfl:=Ψ h
  exact⟨0,by simp[tP],by simp[tP]⟩
 |n+1,p,h=>by
  rcases PG p with rfl|⟨q,c,rfl⟩
  ·simp at h
  rw[PN]at h⊢
  have hq:q.length=n:=sW
  rw[jm]
  by_cases hc:c=0
  ·obtain⟨m,h1,h2⟩:=oe n q hq
   refine⟨m+1,?_,by rw[M_ hc];omega⟩
   rw[M_ hc,aap,←DX,←h1,hc]
  rw[I_ hc]
  exact⟨0,j_,by simp[hq]⟩
theorem fG(p:List GF)(x:GF):pv (aW p) x=pv p x:=by
 obtain⟨m,h1,_⟩:=oe _ p rfl
 conv=>rhs;rw[h1]
 rw[fS,ic,mul_zero,add_zero]
theorem gP(p:List GF):(aW p).length≤p.length:=by
 obtain⟨m,_,h⟩:=oe _ p rfl
 omega
theorem tQ(p:List GF):p.take (aW p).length=aW p:=by
 obtain⟨m,h1,_⟩:=oe _ p rfl
 conv=>lhs;rw[h1]
 rw[Lj (by have:(aW (aW p++List.replicate m 0)).length≤_:=NF (by rw[←h1]);exact this),←h1,EU]
theorem jR(p:List GF)(j:Nat):(aW p).getD j 0=p.getD j 0:=by
 obtain⟨m,h1,_⟩:=oe _ p rfl
 conv=>rhs;rw[h1]
 simp only[bF,List.getElem?_append]
 by_cases h:j<(aW p).length
 ·rw[M_ h]
 rw[I_ h,τ a_,Fp]
 split<;>rfl
def gy(a:GF):List GF→List GF
 | []=> []
 | [_]=> []
 |_::d::r=>pv (d::r) a::gy a (d::r)
theorem xH(a:GF):∀p:List GF,(gy a p).length=p.length-1
 | []=>rfl
 | [_]=>rfl
 |_::d::r=>by rw[gy,r_,xH a (d::r)];simp
theorem xI(a x:GF):∀p:List GF,pv p x=pv p a+(x+a)*pv (gy a p) x
 | []=>by simp[pv,gy,mul_zero,add_zero]
 | [c]=>by simp[pv,gy,mul_zero,add_zero]
 |c::d::r=>by
  have ih:=xI a x (d::r)
  show c+x*pv (d::r) x=c+a*pv (d::r) a+(x+a)*(pv (d::r) a+x*pv (gy a (d::r)) x)
  rw[ih]
  generalize pv (d::r) a=v
  generalize pv (gy a (d::r)) x=q
  simp only[mul_add,add_mul]
  rw[show c+a*v+(x*v+a*v+(x*(x*q)+a*(x*q)))=(a*v+a*v)+(c+(x*v+(x*(x*q)+x*(a*q)))) by ac_rfl,eE,zero_add]
theorem Dt(a:GF):∀p:List GF,(∀c∈gy a p,c=0)→pv p a=0→∀c∈p,c=0
 | [],_,_=>j_
 | [c],_,h=>by
  rw[pv,pv,mul_zero,add_zero]at h
  simpa using h
 |c::d::r,h,h0=>by
  rw[gy]at h
  have hd:pv (d::r) a=0:=h _ H_
  have ih:=Dt a (d::r) (fun y hy=>h y (o_ _ hy)) hd
  rw[pv,hd,mul_zero,add_zero]at h0
  intro y hy
  rcases X_.1 hy with rfl|hy
  ·exact h0
  exact ih y hy
theorem rV:∀(bl p:List GF),bl.Nodup→p.length≤bl.length→(∀x∈bl,pv p x=0)→∀c∈p,c=0
 | [],p,_,h,_=>by
  obtain rfl:=Ψ (Nat.le_zero.1 h)
  simp
 |a::t,p,hn,hl,hr=>by
  obtain⟨h1,h2⟩:=wI.1 hn
  have ha:=hr a H_
  refine Dt a p (rV t (gy a p) h2 (by rw[xH];simp at hl;omega) fun x hx=>?_) ha
  have hx0:=hr x (o_ _ hx)
  rw[xI a x p,ha,zero_add]at hx0
  rcases GF.mul_eq_zero hx0 with e|e
  ·exact absurd (lB e) fun e=>h1 (e▸hx)
  exact e
theorem xa(x:GF):∀p q:List GF,p.length=q.length→pv (List.zipWith (·+ ·) p q) x=pv p x+pv q x
 | [],[],_=>by simp[pv,add_zero]
 |a::p,b::q,h=>by
  rw[Oi,pv,pv,pv,xa x p q sW,mul_add];ac_rfl
 | [],_::_,h=>aS
 |_::_,[],h=>aS
theorem Eh:∀p q:List GF,p.length=q.length→(∀c∈List.zipWith (·+ ·) p q,c=0)→p=q
 | [],[],_,_=>rfl
 |a::p,b::q,h,hz=>by
  rw[Oi]at hz
  rw[lB (hz _ H_),Eh p q sW fun c hc=>hz c (o_ _ hc)]
 | [],_::_,h,_=>aS
 |_::_,[],h,_=>aS
theorem N3{bl p q:List GF}(hn:bl.Nodup)(hl:p.length=q.length)(hp:p.length≤bl.length)(h:∀x∈bl,pv p x=pv q x):p=q:=
 Eh p q hl (rV bl _ hn (by simp[hl];omega) fun x hx=>by rw[xa x p q hl,h x hx,eE])
def GF.of(n:Nat)(h:n<256):GF:=⟨n,h⟩
def sA:List GF:=List.ofFn fun i:Fin 256=>GF.of i.1 i.2
theorem ym:sA.Nodup:=by
 unfold sA
 rw[Cf,Ω]
 intro i j hi hj hij e
 rw[List.getElem_ofFn,List.getElem_ofFn]at e
 have:i=j:=L_ GF.val e
 omega
theorem yl:sA.length=256:=ZX
theorem ua{p q:List GF}(hl:p.length=q.length)(hp:p.length≤256)(h:∀x,pv p x=pv q x):p=q:=
 N3 ym hl (by rw[yl];exact hp) fun x _=>h x
def mulL(r:GF)(g:List GF):List GF:=fL 0 (g.map (r* ·)) (0::g)
theorem mX(a x:GF):∀g:List GF,pv (g.map (a* ·)) x=a*pv g x
 | []=>by simp[pv,mul_zero]
 |c::g=>by rw[ι,pv,mX a x g,pv,mul_add];congr 1;ac_rfl
theorem lI(r x:GF)(g:List GF):pv (mulL r g) x=(r+x)*pv g x:=by
 rw[mulL,rQ x _ 0 _ j_,pow,one_mul,mX,pv,zero_add,add_mul,add_comm]
theorem nZ(r:GF)(g:List GF):(mulL r g).length=g.length+1:=by rw[mulL,j9];simp
theorem BA(r:GF)(g:List GF):(mulL r g).getD g.length 0=(0::g).getD g.length 0:=by
 rw[mulL,sy _ _ _ _ j_,I_ j_,add_zero]
def gr(rs:List GF):List GF:=rs.foldl (fun g r=>mulL r g) [1]
end Go.Proofs.YtmhkpafkadijgaaGreatDoor.Gw
namespace Go.Proofs.YtmhkpafkadijgaaGreatDoor.Gw
open Go.IntKind renaming wrap→I,i64→V
open Go GF
def bi(p:List GF):List Int:=p.map fun a=>((a.1:Nat):Int)
@[simp] theorem YO (p:List GF):(bi p).length=p.length:=by simp[bi]
theorem Tu:bi []=[]:=rfl
theorem gb(p q:List GF):bi (p++q)=bi p++bi q:=by simp[bi]
theorem gZ(n:Nat):List.replicate n (0:Int)=bi (List.replicate n 0):=by simp[bi]
theorem lh(n:Nat)(p:List GF):(bi p).take n=bi (p.take n):=by simp[bi,aaA]
theorem nu(n:Nat)(p:List GF):(bi p).drop n=bi (p.drop n):=by simp[bi,List.map_drop]
theorem cI(p:List GF)(j:Nat):at_ 0 (bi p) (j:Int)=(((p.getD j 0).1:Nat):Int):=by
 simp only[at_,n_,bF,bi,Lr]
 cases p[j]? <;>rfl
theorem dG{p:List GF}{j:Nat}(h:j<p.length):p.getD j 0=p[j]:=by simp[bF,h]
theorem gY(p:List GF)(j:Nat)(c:GF):(bi p).set j ((c.1:Nat):Int)=bi (p.set j c):=by simp[bi,List.map_set]
theorem Wf{p q:List GF}(h:bi p=bi q):p=q:=by
 refine List.map_inj_right (f:=fun a:GF=>((a.1:Nat):Int)) (fun a b e=>GF.ext (by have e':((a.1:Nat):Int)=((b.1:Nat):Int):=e;omega))|>.1 h
theorem yz(p:List GF):cR (bi p)=true:=by
 rw[cR,Y_]
 intro x hx
 obtain⟨a,_,rfl⟩:=uV.1 hx
 exact qF.2 ⟨a_,by have:=a.2;omega⟩
theorem yE:∀{l:List Int},cR l=true→∃p,l=bi p
 | [],_=>⟨[],rfl⟩
 |a::l,h=>by
  rw[cR,PX,S_]at h
  obtain⟨p,rfl⟩:=yE (l:=l) h.2
  obtain⟨n,rfl,hn⟩:=oW h.1
  exact⟨⟨n,hn⟩::p,rfl⟩
theorem ti(a:GF):iE ((a.1:Nat):Int)=true:=qF.2 ⟨a_,by have:=a.2;omega⟩
theorem Az(a b:GF):gm ((a.1:Nat):Int) ((b.1:Nat):Int)=(((a*b).1:Nat):Int):=by simp[gm,BE]
theorem xor_val(a b:GF):bits .xor .u8 ((a.1:Nat):Int) ((b.1:Nat):Int)=(((a+b).1:Nat):Int):=by
 have h1:=a.2
 have h2:=b.2
 have hx:a.1^^^b.1<2^8:=LH a_ a_
 have e1:(BitVec.ofInt 8 (a.1:Int)).toNat=a.1:=by rw[FH,ZK];exact PQ a_
 have e2:(BitVec.ofInt 8 (b.1:Int)).toNat=b.1:=by rw[FH,ZK];exact PQ a_
 show IntKind.u8.wrap ((BitVec.ofInt 8 (a.1:Int)^^^BitVec.ofInt 8 (b.1:Int)).toNat:Int)=_
 rw[BitVec.toNat_xor,e1,e2,lY a_ a_];rfl
theorem ru(a b:GF):gp.f ((a.1:Nat):Int) ((b.1:Nat):Int)=some (((a*b).1:Nat):Int):=by
 unfold gp.f an;rw[ti,ti,Az];rfl
theorem Aj(p q:List GF)(h:p.length≤140737488355328):jJ.f (bi p) (bi q)=some (bi (List.zipWith (·* ·) p q)):=by
 unfold jJ.f an
 rw[yz,yz,YO,W_ h]
 have:List.zipWith gm (bi p) (bi q)=bi (List.zipWith (·* ·) p q):=by
  simp only[bi,List.zipWith_map,List.map_zipWith,Az]
 rw[this];rfl
def al:GF:=⟨2,f_⟩
theorem wY{n:Nat}(h:n<4611686018427387904):kj.f (n:Int)=some (((pow al n).1:Nat):Int):=by
 unfold kj.f jK.f an jN
 rw[show iE 2=true from rfl,W_ a_,I_ a_]
 have:((n:Int)%255).toNat=n%255:=a_
 simp only[Bool.and_self,EK,aJ,this]
 rw[jW]
 have:=nP (a:=2) f_ f_ n
 simp only[show(2:Int).toNat=2 from rfl]
 rw[this];rfl
theorem y2(p:List GF):∀(j k:Nat),j≤p.length→j<k→p.length<4611686018427387904→aW (p.take j)=aW p→eN.l0 k (bi p) ((j:Int)-1)=some (((aW p).length:Int)-1)
 |j,0,_,h,_,_=>a_
 |0,k+1,_,_,_,he=>by
  rw[eN.l0,aQ a_,←he];rfl
 |j+1,k+1,hj,hk,hb,he=>by
  have e1:((j+1:Nat):Int)-1=(j:Int):=a_
  have e2:I V ((j:Int)-1)=(j:Int)-1:=ca a_ a_
  have e3:p.take (j+1)=p.take j++[p.getD j 0]:=by
   rw[y_ hj,dG hj]
  rw[eN.l0,e1,bh a_,aF g_,cI,e2]
  rw[e3,jm]at he
  by_cases hc:p.getD j 0=0
  ·rw[M_ hc]at he
   rw[hc,cH (show(((0:GF).1:Nat):Int)=0 from rfl)]
   exact y2 p j k a_ a_ hb he
  rw[I_ hc]at he
  rw[kg (fun e=>hc (GF.ext ZA)),←he]
  simp;omega
theorem qP{p:List GF}{k:Nat}(hk:p.length<k)(hb:p.length<4611686018427387904):eN.f k (bi p)=some (((aW p).length:Int)-1):=by
 unfold eN.f
 rw[YO,ca a_ a_]
 exact y2 p p.length k (aI _) hk hb (by rw[EU])
theorem lK{p:List GF}{k:Nat}(hk:p.length<k)(hb:p.length<4294967296):cX.f k (bi p)=some (bi (aW p)):=by
 unfold cX.f
 have hl:=gP p
 rw[qP hk a_,aJ,ca a_ a_,aF g_]
 have e:(((aW p).length:Int)-1+1).toNat=(aW p).length:=a_
 rw[e,lh,tQ,Γ]
 unfold dM.f
 rw[aF g_];rfl
theorem Mk{n:Nat}(h:n<1024):nX.f 1 (n:Int)=some (0,(n:Int)):=by
 have hc:(List.range 1024).all (fun n=>decide (nX.f 1 (n:Int)=some (0,(n:Int))))=true:=R_
 exact aT (Y_.1 hc n (φ.2 h))
theorem CV(a:Int)(n:Nat)(hn:n<1024):∀(d k x:Nat)(l:List Int),l.length=n→x+d=n→0<x→d<k→l.take x=List.replicate x a→iy.l0 k l (x:Int)=some (List.replicate n a)
 |d,0,_,_,_,_,_,h,_=>a_
 |d,k+1,x,l,hl,hd,h0,hk,ht=>by
  rw[iy.l0]
  by_cases hx:x<n
  ·have e1:(x:Int).toNat=x:=a_
   rw[bh a_,aF a_,aF a_,e1]
   have hm:min ((l.take x).drop 0).length (l.length-x)=min x (n-x):=l_
   rw[hm]
   have e2:I V ((x:Int)+((min x (n-x):Nat):Int))=((x+min x (n-x):Nat):Int):=by rw[ca a_ a_];omega
   rw[e2]
   have hz:(l.take x).take (l.length-x)=List.replicate (min x (n-x)) a:=by
    rw[ht,List.take_replicate,hl,Nat.min_comm]
   refine CV a n hn (d-min x (n-x)) k _ _ (by rw[mj _ a_,hl]) a_ a_ a_ ?_
   unfold cB
   rw[Γ,hz,ht,P_,aaO]
   rw[Lj j_]
   exact D_ j_
  obtain rfl:d=0:=a_
  obtain rfl:x=n:=a_
  rw[aQ a_]
  rw[D_ a_]at ht
  rw[ht]
theorem O9{a:Int}{n k:Nat}(hn:n<1024)(hk:n<k):iy.f k [a] (n:Int)=some (List.replicate n a):=by
 unfold iy.f
 rw[aQ a_,show IntKind.u64.wrap (([a]:List Int).length:Int)=1 from by rw[jx j_ j_];rfl,jx (x:=(n:Int)) a_ a_,Mk hn,aJ]
 rw[aQ j_,aQ rG]
 simp only
 rw[ca a_ a_,aF a_]
 have e1:(n:Int).toNat=n:=a_
 rw[e1,P_]
 cases n with
 |zero=>
  obtain⟨k,rfl⟩:∃m,k=m+1:=⟨k-1,a_⟩
  rw[iy.l0];rfl
 |succ n=>
  have hm:min ([a]:List Int).length (n+1)=1:=j_
  rw[hm]
  refine CV a (n+1) hn n k 1 _ (by simp[cB]) a_ a_ a_ ?_
  simp[cB]
theorem Eg(a:GF):∀q:List GF,List.zipWith (·* ·) (List.replicate q.length a) q=q.map (a* ·)
 | []=>rfl
 |c::q=>by rw[r_,FU,Oi,Eg a q,ι]
theorem nG{a:GF}{q:List GF}{k:Nat}(hn:q.length<1024)(hk:q.length<k):gn.f k ((a.1:Nat):Int) (bi q)=some (bi (q.map (a* ·))):=by
 unfold gn.f
 rw[YO,O9 hn hk,aJ]
 have e:List.replicate q.length ((a.1:Nat):Int)=bi (List.replicate q.length a):=by simp[bi]
 rw[e,Aj _ _ l_,Eg];rfl
theorem BD(p q c:List GF)(i:Nat):∀(d j k:Nat)(L:List GF),j+d=c.length→d<k→i+c.length≤L.length→L.length<4294967296→
 ∃k',k=k'+d+1∧cZ.l1 k (bi p) (bi q) (i:Int) (bi c) (bi L) (j:Int)=cZ.l0 k' (bi p) (bi q) (bi (fL (i+j) (c.drop j) L)) (I V ((i:Int)-1))
 |d,j,0,L,_,h,_,_=>a_
 |0,j,k+1,L,hd,hk,hL,hb=>by
  refine⟨k,a_,?_⟩
  rw[cZ.l1,aQ g_,Θ a_];rfl
 |d+1,j,k+1,L,hd,hk,hL,hb=>by
  have e1:I V ((i:Int)+(j:Int))=((i+j:Nat):Int):=by rw[ca a_ a_];omega
  have e2:I V ((j:Int)+1)=((j+1:Nat):Int):=bT a_
  obtain⟨k',h1,h2⟩:=BD p q c i d (j+1) k (L.set (i+j) (L.getD (i+j) 0+c.getD j 0)) a_ a_ l_ NQ
  refine⟨k',a_,?_⟩
  rw[cZ.l1,bh g_,aF g_,e1,aF g_,aF g_,e2,cI,cI,xor_val,n_,gY,h2]
  have hj:j<c.length:=a_
  have e3:c.drop j=c.getD j 0::c.drop (j+1):=by
   rw[δ hj,dG hj]
  rw[e3,fL];rfl
theorem wi(p q:List GF)(hq:q.length<1024):∀(j k:Nat)(L:List GF),j≤p.length→p.length+q.length≤L.length→L.length+1+j*(q.length+3)<k→L.length<4294967296→
 ∃L',L'.length=L.length∧(∀x,pv L' x=pv L x+pv (p.take j) x*pv q x)∧cZ.l0 k (bi p) (bi q) (bi L) ((j:Int)-1)=some (bi (aW L'))
 |j,0,L,_,_,h,_=>a_
 |0,k+1,L,hj,hL,hk,hb=>by
  refine⟨L,rfl,fun x=>by rw[bP,pv,zero_mul,add_zero],?_⟩
  rw[cZ.l0,aQ a_,lK a_ hb];rfl
 |j+1,k+1,L,hj,hL,hk,hb=>by
  have hmul:(j+1)*(q.length+3)=j*(q.length+3)+q.length+3:=O_
  have e1:((j+1:Nat):Int)-1=(j:Int):=a_
  have e2:I V ((j:Int)-1)=(j:Int)-1:=ca a_ a_
  have e3:p.take (j+1)=p.take j++[p.getD j 0]:=by
   rw[y_ hj,dG hj]
  have hjl:(p.take j).length=j:=l_
  rw[cZ.l0,e1,bh a_,aF g_,cI]
  by_cases hc:p.getD j 0=0
  ·rw[hc,cH (show(((0:GF).1:Nat):Int)=0 from rfl),e2]
   obtain⟨L',h1,h2,h3⟩:=wi p q hq j k L a_ hL a_ hb
   refine⟨L',h1,fun x=>?_,h3⟩
   rw[h2 x,e3,hc,fS,pv,pv,mul_zero,add_zero,mul_zero,add_zero]
  rw[kg (fun e=>hc (GF.ext ZA)),nG hq a_,aJ]
  obtain⟨k',h1,h2⟩:=BD p q (q.map (p.getD j 0* ·)) j (q.map (p.getD j 0* ·)).length 0 k L j_ l_ l_ hb
  simp only[x_]at h1
  rw[show((0:Nat):Int)=0 from rfl]at h2
  rw[h2,e2,Gy,Γ]
  obtain⟨L',h4,h5,h6⟩:=wi p q hq j k' (fL j (q.map (p.getD j 0* ·)) L) a_ (by rw[j9];exact hL) (by rw[j9];omega) (by rw[j9];exact hb)
  refine⟨L',by rw[h4,j9],fun x=>?_,h6⟩
  rw[h5 x,rQ x _ _ _ l_,mX,e3,fS,hjl,pv,pv,mul_zero,add_zero,add_mul,GF.add_assoc]
  congr 1
  rw[GF.add_comm]
  congr 1
  rw[GF.mul_assoc]
theorem wj{p q:List GF}{k:Nat}(hq:q.length<1024)(hp:p.length<1024)(hk:p.length+q.length+1+p.length*(q.length+3)<k):
 ∃L,L.length=p.length+q.length∧(∀x,pv L x=pv p x*pv q x)∧cZ.f k (bi p) (bi q)=some (bi (aW L)):=by
 have e1:I V (((bi p).length:Int)+((bi q).length:Int))=((p.length+q.length:Nat):Int):=by rw[YO,YO,ca a_ a_];omega
 have e2:I V (((bi p).length:Int)-1)=(p.length:Int)-1:=by rw[YO];exact ca a_ a_
 obtain⟨L,h1,h2,h3⟩:=wi p q hq p.length k (List.replicate (p.length+q.length) 0) (aI _) j_ (by simpa using hk) l_
 refine⟨L,LX,fun x=>by rw[h2 x,ic,GF.zero_add,EU],?_⟩
 unfold cZ.f
 rw[e1,e2,aF a_,n_,gZ]
 exact h3
structure Cd (N K B:Nat):Prop where
 k1:1≤K
 kn:K<N
 n:N≤255
 b:B≤254
theorem jX{N K B:Nat}(h:Cd N K B):dh.f ((N:Int),(K:Int),(B:Int))=some 0:=by
 obtain⟨h1,h2,h3,h4⟩:=h
 unfold dh.f
 rw[aQ rG,aQ rG,aQ rG,aQ rG,aQ rG]
theorem rZ{N K B:Nat}(h:Cd N K B):gf.f ((N:Int),(K:Int),(B:Int))=some ((N-K:Nat):Int):=by
 unfold gf.f
 obtain⟨h1,h2,h3,h4⟩:=id h
 simp only
 rw[jX h,aJ,cH rfl,ca a_ a_]
 congr 1;omega
def eQ(B s:Nat):List GF:=(List.range s).map fun i=>pow al (B+i)
theorem lS(B s:Nat):(eQ B s).length=s:=by simp[eQ]
theorem Da(B s:Nat):eQ B (s+1)=eQ B s++[pow al (B+s)]:=by simp[eQ,EW]
theorem Dj(B s:Nat)(hs:s<4294967296):∀(d i k:Nat),i+d=s→d<k→iI.l0 k (s:Int) 2 (bi (eQ B i)) (((pow al (B+i)).1:Nat):Int)=some (bi (eQ B s))
 |d,i,0,_,h=>a_
 |0,i,k+1,hd,hk=>by
  obtain rfl:i=s:=a_
  rw[iI.l0,bh (by rw[YO,lS])]
 |d+1,i,k+1,hd,hk=>by
  rw[iI.l0,aQ (by rw[YO,lS];omega),aF (by rw[YO,lS];simp;omega)]
  rw[show(2:Int)=((al.1:Nat):Int) from rfl,ru,aJ]
  have e:bi (eQ B i)++[(((pow al (B+i)).1:Nat):Int)]=bi (eQ B (i+1)):=by rw[Da,gb];rfl
  rw[e,show pow al (B+i)*al=pow al (B+(i+1)) from rfl]
  exact Dj B s hs d (i+1) k a_ a_
theorem C2{N K B k:Nat}(h:Cd N K B)(hk:N<k):kl.f k ((N:Int),(K:Int),(B:Int))=some (bi (eQ B (N-K))):=by
 unfold kl.f
 obtain⟨h1,h2,h3,h4⟩:=id h
 simp only
 rw[jX h,aJ,cH rfl,rZ h,aJ,wY a_,aJ]
 unfold iI.f
 rw[aF a_,show List.replicate (0:Int).toNat (0:Int)=bi (eQ B 0) from rfl]
 have:=Dj B (N-K) a_ (N-K) 0 k a_ a_
 rw[Gy]at this
 rw[this];rfl
theorem qA:al≠0:=f_
theorem B2:(1:GF)≠0:=f_
theorem Cr{a:GF}(h:a≠0):∀n,pow a n≠0
 |0=>B2
 |n+1=>fun e=>(GF.mul_eq_zero e).elim (Cr h n) h
theorem Fi{d:Nat}(h0:0<d)(h:d<255):pow al d≠1:=by
 have hc:(List.range 255).all (fun d=>Nat.beq d 0||!(Nat.beq (bD 2 d) 1))=true:=R_
 have:=Y_.1 hc d (φ.2 h)
 intro e
 have e':bD 2 d=1:=by
  have h1:=jW al d
  rw[e]at h1
  exact h1.symm
 rw[e']at this
 simp at this
 omega
theorem NA{m n:Nat}(h:m<n)(hd:n-m<255):pow al m≠pow al n:=by
 intro e
 rw[show n=m+(n-m) by omega,pow_add]at e
 have h2:inv (pow al m)*pow al m=inv (pow al m)*(pow al m*pow al (n-m)):=L_ (inv (pow al m)* ·) e
 rw[←GF.mul_assoc,GF.mul_comm (inv _),gN (Cr qA m),GF.one_mul]at h2
 exact Fi a_ hd h2.symm
theorem Pr{B s:Nat}(hs:s≤255):(eQ B s).Nodup:=by
 unfold eQ
 rw[Cf,Oj,Ω]
 intro i j hi hj hij
 simp only[FN,yC]at hi hj⊢
 exact NA a_ a_
def Mon(n:Nat)(g:List GF):Prop:=g.length=n+1∧g.getD n 0=1
theorem Mi{n:Nat}{g:List GF}(h:Mon n g):g=g.take n++[1]:=by
 obtain⟨h1,h2⟩:=h
 have hn:n<g.length:=a_
 rw[dG hn]at h2
 conv=>lhs;rw[←EU (l:=g),h1,y_ hn,h2]
theorem wF{n:Nat}{g:List GF}(h:Mon n g):aW g=g:=by
 rw[Mi h,jm,I_ B2]
theorem rH{n:Nat}{g:List GF}(r:GF)(h:Mon n g):Mon (n+1) (mulL r g):=by
 obtain⟨h1,h2⟩:=h
 refine⟨by rw[nZ,h1],?_⟩
 have:=BA r g
 rw[h1,bY,h2]at this
 exact this
theorem Mm{n k:Nat}{g:List GF}(r:GF)(h:Mon n g)(hn:n≤253)(hk:2000<k):cZ.f k (bi g) [((r.1:Nat):Int),1]=some (bi (mulL r g)):=by
 obtain⟨L,h1,h2,h3⟩:=wj (p:=g) (q:=[r,1]) (k:=k) j_ (by rw[h.1];omega) (by rw[h.1];simp;omega)
 rw[show([((r.1:Nat):Int),1]:List Int)=bi [r,1] from rfl,h3]
 have e:L=mulL r g++[0]:=ua (by rw[h1,E_,nZ];rfl) (by rw[h1,h.1];simp;omega) fun x=>by
  rw[h2,fS,lI]
  simp only[pv,GF.mul_zero,GF.add_zero,GF.mul_one]
  exact GF.mul_comm _ _
 rw[e,jm,M_ rfl,wF (rH r h)]
theorem Al(rs:List GF)(hr:rs.length≤254):∀(d i k:Nat)(g:List GF),i+d=rs.length→Mon i g→2000+d<k→
 gz.l0 k (bi rs) (bi g) (i:Int)=some (bi ((rs.drop i).foldl (fun g r=>mulL r g) g))
 |d,i,0,_,_,_,h=>a_
 |0,i,k+1,g,hd,hm,hk=>by
  rw[gz.l0,aQ g_,Θ a_];rfl
 |d+1,i,k+1,g,hd,hm,hk=>by
  have hi:i<rs.length:=a_
  rw[gz.l0,bh g_,aF g_,cI,Mm _ hm a_ a_,aJ,bT a_]
  rw[Al rs hr d (i+1) k _ a_ (rH _ hm) a_]
  have e3:rs.drop i=rs.getD i 0::rs.drop (i+1):=NR
  rw[e3];rfl
theorem IU{rs:List GF}{k:Nat}(hr:rs.length≤254)(hk:2300<k):gz.f k (bi rs)=some (bi (gr rs)):=by
 unfold gz.f
 have:=Al rs hr rs.length 0 k [1] a_ ⟨rfl,rfl⟩ a_
 rw[show([1]:List Int)=bi [1] from rfl,show(0:Int)=((0:Nat):Int) from rfl,this,Γ];rfl
theorem Af:∀(rs:List GF)(n:Nat)(g:List GF),Mon n g→Mon (n+rs.length) (rs.foldl (fun g r=>mulL r g) g)
 | [],n,g,h=>h
 |r::rs,n,g,h=>by
  have:=Af rs (n+1) (mulL r g) (rH r h)
  rw[r_,show n+(rs.length+1)=n+1+rs.length by omega];exact this
theorem I0(rs:List GF):Mon rs.length (gr rs):=by
 have:=Af rs 0 [1] ⟨rfl,rfl⟩
 rw[FW]at this;exact this
theorem fold_zero(x:GF):∀(rs g:List GF),pv g x=0∨x∈rs→pv (rs.foldl (fun g r=>mulL r g) g) x=0
 | [],g,h=>h.elim id fun h=>aS
 |r::rs,g,h=>by
  refine fold_zero x rs (mulL r g) ?_
  rcases h with h|h
  ·exact .inl (by rw[lI,h,GF.mul_zero])
  rcases X_.1 h with rfl|h
  ·exact .inl (by rw[lI,GF.eE,GF.zero_mul])
  exact .inr h
theorem I1{rs:List GF}{x:GF}(h:x∈rs):pv (gr rs) x=0:=fold_zero x rs [1] (.inr h)
theorem MB{p:List GF}(h0:0<p.length)(h:p.getD (p.length-1) 0=0):(aW p).length<p.length:=by
 rcases PG p with rfl|⟨q,c,rfl⟩
 ·simp at h0
 rw[PN]at h⊢
 have:c=0:=by simpa [bF] using h
 rw[jm,M_ this]
 have:=gP q
 simp;omega
theorem y3(g l c:List GF)(s x3:Nat)(x7:Int×Bool)(q:List Int)(hs:s<l.length)(hl:l.length<4294967296)(hc:c.length=s+1):
 ∀(d j k:Nat)(L:List GF),j+d=c.length→d<k→L.length=l.length→
  ∃k',k=k'+d+1∧cU.l1 k (bi g) (s:Int) x7 (bi l) q (x3:Int) (bi c) (bi L) (j:Int)=cU.j1 (cU.l0 k') k' (bi g) (s:Int) x7 (bi l) q (x3:Int) (bi (fL (l.length-1-s+j) (c.drop j) L))
 |d,j,0,L,_,h,_=>a_
 |0,j,k+1,L,hd,hk,hL=>by
  refine⟨k,a_,?_⟩
  rw[cU.l1,aQ g_,Θ a_];rfl
 |d+1,j,k+1,L,hd,hk,hL=>by
  have e1:I V (I V ((I V (((bi l).length:Int)-1))-(s:Int))+(j:Int))=((l.length-1-s+j:Nat):Int):=by
   rw[YO,ca (x:=(l.length:Int)-1) a_ a_,ca (x:=(l.length:Int)-1-(s:Int)) a_ a_,ca a_ a_];omega
  obtain⟨k',h1,h2⟩:=y3 g l c s x3 x7 q hs hl hc d (j+1) k (L.set (l.length-1-s+j) (L.getD (l.length-1-s+j) 0+c.getD j 0)) a_ a_ (by simpa using hL)
  refine⟨k',a_,?_⟩
  rw[cU.l1,bh g_,aF g_,e1,aF g_,aF g_,bT a_,cI,cI,xor_val,n_,gY,h2]
  have hj:j<c.length:=a_
  have e3:c.drop j=c.getD j 0::c.drop (j+1):=by rw[δ hj,dG hj]
  rw[e3,fL];rfl
structure Wd (N K B:Nat) (m W:List GF):Prop where
 len:W.length=N
 msg:W.drop (N-K)=m
 root:∀x∈eQ B (N-K),pv W x=0
theorem yx(p:List GF)(x:GF):∀(j k:Nat)(acc:GF),j≤p.length→j<k→p.length<4294967296→
 fK.l0 k (bi p) ((x.1:Nat):Int) ((acc.1:Nat):Int) ((j:Int)-1)=some (((pv (p.take j) x+pow x j*acc).1:Nat):Int)
 |j,0,_,_,h,_=>a_
 |0,k+1,acc,hj,hk,hb=>by
  rw[fK.l0,aQ a_,bP,pv,pow,GF.one_mul,GF.zero_add]
 |j+1,k+1,acc,hj,hk,hb=>by
  have e1:((j+1:Nat):Int)-1=(j:Int):=a_
  have e2:I V ((j:Int)-1)=(j:Int)-1:=ca a_ a_
  have e3:p.take (j+1)=p.take j++[p.getD j 0]:=by
   rw[y_ hj,dG hj]
  have hjl:(p.take j).length=j:=l_
  rw[fK.l0,e1,bh a_,aF g_,ru,aJ,cI,xor_val,e2,yx p x j k _ a_ a_ hb,e3,fS,hjl]
  congr 3
  rw[pv,pv,GF.mul_zero,GF.add_zero,pow,GF.mul_add,GF.add_assoc]
  congr 1
  rw[GF.add_comm]
  congr 1
  ac_rfl
theorem uY{p:List GF}{x:GF}{k:Nat}(hk:p.length<k)(hb:p.length<4294967296):fK.f k (bi p) ((x.1:Nat):Int)=some (((pv p x).1:Nat):Int):=by
 unfold fK.f
 have:=yx p x p.length k 0 (aI _) hk hb
 rw[EU,GF.mul_zero,GF.add_zero]at this
 rw[YO,ca a_ a_]
 exact this
theorem yo(p bl:List GF)(hp:p.length<1000)(hq:bl.length<1000):∀(d i k:Nat),i+d=bl.length→1000+d<k→
 eR.l0 k (bi p) (bi bl) (bi ((bl.take i).map (pv p)++List.replicate d 0)) (i:Int)=some (bi (bl.map (pv p)))
 |d,i,0,_,h=>a_
 |0,i,k+1,hd,hk=>by
  rw[eR.l0,aQ g_,D_ a_];simp
 |d+1,i,k+1,hd,hk=>by
  have hi:i<bl.length:=a_
  have hil:((bl.take i).map (pv p)).length=i:=l_
  rw[eR.l0,bh g_,aF g_,cI,uY a_ a_,aJ,aF (by rw[YO,E_,hil];simp;omega),n_,gY,bT a_]
  have e:((bl.take i).map (pv p)++List.replicate (d+1) 0).set i (pv p (bl.getD i 0))=(bl.take (i+1)).map (pv p)++List.replicate d 0:=by
   rw[DZ _ _ a_,hil,Ff,FU,FM,y_ hi,dG hi,Fg,DX]
   rfl
  rw[e]
  exact yo p bl hp hq d (i+1) k a_ a_
theorem uW{p bl:List GF}{k:Nat}(hp:p.length<1000)(hq:bl.length<1000)(hk:3000<k):eR.f k (bi p) (bi bl)=some (bi (bl.map (pv p))):=by
 unfold eR.f
 rw[YO,aF a_,n_]
 have:=yo p bl hp hq bl.length 0 k a_ a_
 rw[bP,rW,ψ,←gZ]at this
 exact this
theorem Cw(x:GF):pv [1] x=1:=by simp only[pv,GF.mul_zero,GF.add_zero]
theorem tI(a:Int):min2 a a=a:=by unfold min2;split<;>rfl
end Go.Proofs.YtmhkpafkadijgaaGreatDoor.Gw
namespace Go.Proofs
open Go.Shelf
def Tryz.Bh:Go.Shelf.Ren:=⟨fun |156=>110|165=>175|166=>44|169=>45|240=>86|241=>230|276=>129|277=>282|n=>n,fun |31=>65|9=>9|3=>3|4=>4|0=>0|20=>20|72=>70|76=>73|70=>68|37=>22|75=>72|127=>151|164=>219|5=>5|80=>75|n=>n,fun |n=>n⟩
theorem Tryz.pQ:Go.Proofs.Lays.n156 Tryz.prog Tryz.Bh:={
 mixed:=by kernel_rfl
 f156:=Tryz.func110.trans (congrArg some (by kernel_rfl))
 f165:=Tryz.func175.trans (congrArg some (by kernel_rfl))
 f166:=Tryz.func44.trans (congrArg some (by kernel_rfl))
 f169:=Tryz.func45.trans (congrArg some (by kernel_rfl))
 f240:=Tryz.func86.trans (congrArg some (by kernel_rfl))
 f241:=Tryz.func230.trans (congrArg some (by kernel_rfl))
 f276:=Tryz.func129.trans (congrArg some (by kernel_rfl))
 f277:=Tryz.func282.trans (congrArg some (by kernel_rfl))
 t0:=Tryz.underlying0
 a0:=Tryz.isAgg0
 z0:=Tryz.sizeOf0
 v0:=Tryz.zeroValue0
 t3:=Tryz.underlying3
 a3:=Tryz.isAgg3
 z3:=Tryz.sizeOf3
 v3:=Tryz.zeroValue3
 t4:=Tryz.underlying4
 a4:=Tryz.isAgg4
 z4:=Tryz.sizeOf4
 v4:=Tryz.zeroValue4
 t9:=Tryz.underlying9
 a9:=Tryz.isAgg9
 z9:=Tryz.sizeOf9
 v9:=Tryz.zeroValue9
 t20:=Tryz.underlying20
 a20:=Tryz.isAgg20
 z20:=Tryz.sizeOf20
 v20:=Tryz.zeroValue20
 t31:=Tryz.underlying65
 a31:=Tryz.isAgg65
 z31:=Tryz.sizeOf65
 v31:=Tryz.zeroValue65
 t37:=Tryz.underlying22
 a37:=Tryz.isAgg22
 z37:=Tryz.sizeOf22
 v37:=Tryz.zeroValue22
 t70:=Tryz.underlying68
 a70:=Tryz.isAgg68
 z70:=Tryz.sizeOf68
 v70:=Tryz.zeroValue68
 t72:=Tryz.underlying70
 a72:=Tryz.isAgg70
 z72:=Tryz.sizeOf70
 v72:=Tryz.zeroValue70
 t75:=Tryz.underlying72
 a75:=Tryz.isAgg72
 z75:=Tryz.sizeOf72
 v75:=Tryz.zeroValue72
 t76:=Tryz.underlying73
 a76:=Tryz.isAgg73
 z76:=Tryz.sizeOf73
 v76:=Tryz.zeroValue73
 t127:=Tryz.underlying151
 a127:=Tryz.isAgg151
 z127:=Tryz.sizeOf151
 v127:=Tryz.zeroValue151
 t164:=Tryz.underlying219
 a164:=Tryz.isAgg219
 z164:=Tryz.sizeOf219
 v164:=Tryz.zeroValue219}
theorem Tryz.oP:Builder.Extra Tryz.prog Tryz.Bh:={
 sizeBuilder:=by kernel_rfl
 liesBuilder:=by kernel_rfl
 t5:=Tryz.underlying5
 a5:=Tryz.isAgg5
 z5:=Tryz.sizeOf5
 v5:=Tryz.zeroValue5
 infoByte:=by kernel_rfl
 cellsByte:=by kernel_rfl
 sizeByte:=by kernel_rfl
 neB5:=by decide}
open Go.RowKit in
theorem Tryz.strings_Join_none(a:Option Addr)(c:Nat)(sep:ByteArray)(w:World):
 Calls Tryz.prog 110 #[.slice a 0 c,.string sep] w fun e w'=>e= .returned (.string ⟨#[]⟩)∧w'=w:=Any.strings_Join_none Tryz.pQ Tryz.oP a c sep w
open Go.RowKit in
theorem Tryz.strings_Join(bk o c:Nat)(xs:List ByteArray)(sep:ByteArray)(w:World)(hcells:∀(j:Nat) x,xs[j]? =some x→w.cell? ⟨bk,o+j,none⟩=some (.string x))(hbk:bk<w.heap.size)(hN:xs.length≤140737488355328)(hcap:xs.length≤c)(hlen:(Lib.join (xs.map (·.data.toList)) sep.data.toList).length≤140737488355328):
 Calls Tryz.prog 110 #[.slice (some ⟨bk,o,none⟩) xs.length c,.string sep] w fun e w'=>e= .returned (.string ⟨(Lib.join (xs.map (·.data.toList)) sep.data.toList).toArray⟩)∧Below w.heap.size w w':=Any.strings_Join Tryz.pQ Tryz.oP bk o c xs sep w hcells hbk hN hcap hlen
def Tryz.KJ:Go.Shelf.Ren:=⟨fun |172=>99|244=>147|245=>148|247=>204|279=>205|280=>206|281=>207|282=>208|287=>249|316=>250|171=>10|205=>251|321=>299|322=>300|243=>30|246=>65|283=>94|284=>95|285=>96|286=>97|129=>136|317=>135|318=>137|319=>138|320=>139|337=>199|338=>200|n=>n,fun |9=>9|3=>3|75=>72|76=>73|4=>4|5=>5|167=>305|37=>22|0=>0|85=>306|2=>2|168=>308|53=>160|175=>341|46=>167|210=>344|127=>151|145=>387|143=>385|21=>21|171=>159|173=>163|212=>228|51=>100|20=>20|213=>229|232=>338|233=>339|80=>75|n=>n,fun |15=>4|16=>5|17=>0|18=>2|19=>3|n=>n⟩
theorem Tryz.KI:Go.Proofs.Lays.n172 Tryz.prog Tryz.KJ:={
 mixed:=by kernel_rfl
 f129:=Tryz.func136.trans (congrArg some (by kernel_rfl))
 f171:=Tryz.func10.trans (congrArg some (by kernel_rfl))
 f172:=Tryz.func99.trans (congrArg some (by kernel_rfl))
 f205:=Tryz.func251.trans (congrArg some (by kernel_rfl))
 f243:=Tryz.func30.trans (congrArg some (by kernel_rfl))
 f244:=Tryz.func147.trans (congrArg some (by kernel_rfl))
 f245:=Tryz.func148.trans (congrArg some (by kernel_rfl))
 f246:=Tryz.func65.trans (congrArg some (by kernel_rfl))
 f247:=Tryz.func204.trans (congrArg some (by kernel_rfl))
 f279:=Tryz.func205.trans (congrArg some (by kernel_rfl))
 f280:=Tryz.func206.trans (congrArg some (by kernel_rfl))
 f281:=Tryz.func207.trans (congrArg some (by kernel_rfl))
 f282:=Tryz.func208.trans (congrArg some (by kernel_rfl))
 f283:=Tryz.func94.trans (congrArg some (by kernel_rfl))
 f284:=Tryz.func95.trans (congrArg some (by kernel_rfl))
 f285:=Tryz.func96.trans (congrArg some (by kernel_rfl))
 f286:=Tryz.func97.trans (congrArg some (by kernel_rfl))
 f287:=Tryz.func249.trans (congrArg some (by kernel_rfl))
 f316:=Tryz.func250.trans (congrArg some (by kernel_rfl))
 f317:=Tryz.func135.trans (congrArg some (by kernel_rfl))
 f318:=Tryz.func137.trans (congrArg some (by kernel_rfl))
 f319:=Tryz.func138.trans (congrArg some (by kernel_rfl))
 f320:=Tryz.func139.trans (congrArg some (by kernel_rfl))
 f321:=Tryz.func299.trans (congrArg some (by kernel_rfl))
 f322:=Tryz.func300.trans (congrArg some (by kernel_rfl))
 f337:=Tryz.func199.trans (congrArg some (by kernel_rfl))
 f338:=Tryz.func200.trans (congrArg some (by kernel_rfl))
 t0:=Tryz.underlying0
 a0:=Tryz.isAgg0
 z0:=Tryz.sizeOf0
 v0:=Tryz.zeroValue0
 t2:=Tryz.underlying2
 a2:=Tryz.isAgg2
 z2:=Tryz.sizeOf2
 v2:=Tryz.zeroValue2
 t3:=Tryz.underlying3
 a3:=Tryz.isAgg3
 z3:=Tryz.sizeOf3
 v3:=Tryz.zeroValue3
 t4:=Tryz.underlying4
 a4:=Tryz.isAgg4
 z4:=Tryz.sizeOf4
 v4:=Tryz.zeroValue4
 t5:=Tryz.underlying5
 a5:=Tryz.isAgg5
 z5:=Tryz.sizeOf5
 v5:=Tryz.zeroValue5
 t9:=Tryz.underlying9
 a9:=Tryz.isAgg9
 z9:=Tryz.sizeOf9
 v9:=Tryz.zeroValue9
 t20:=Tryz.underlying20
 a20:=Tryz.isAgg20
 z20:=Tryz.sizeOf20
 v20:=Tryz.zeroValue20
 t21:=Tryz.underlying21
 a21:=Tryz.isAgg21
 z21:=Tryz.sizeOf21
 v21:=Tryz.zeroValue21
 t37:=Tryz.underlying22
 a37:=Tryz.isAgg22
 z37:=Tryz.sizeOf22
 v37:=Tryz.zeroValue22
 t46:=Tryz.underlying167
 a46:=Tryz.isAgg167
 z46:=Tryz.sizeOf167
 v46:=Tryz.zeroValue167
 t51:=Tryz.underlying100
 a51:=Tryz.isAgg100
 z51:=Tryz.sizeOf100
 v51:=Tryz.zeroValue100
 t53:=Tryz.underlying160
 a53:=Tryz.isAgg160
 z53:=Tryz.sizeOf160
 v53:=Tryz.zeroValue160
 t75:=Tryz.underlying72
 a75:=Tryz.isAgg72
 z75:=Tryz.sizeOf72
 v75:=Tryz.zeroValue72
 t76:=Tryz.underlying73
 a76:=Tryz.isAgg73
 z76:=Tryz.sizeOf73
 v76:=Tryz.zeroValue73
 t85:=Tryz.underlying306
 a85:=Tryz.isAgg306
 z85:=Tryz.sizeOf306
 v85:=Tryz.zeroValue306
 t127:=Tryz.underlying151
 a127:=Tryz.isAgg151
 z127:=Tryz.sizeOf151
 v127:=Tryz.zeroValue151
 t143:=Tryz.underlying385
 a143:=Tryz.isAgg385
 z143:=Tryz.sizeOf385
 v143:=Tryz.zeroValue385
 t145:=Tryz.underlying387
 a145:=Tryz.isAgg387
 z145:=Tryz.sizeOf387
 v145:=Tryz.zeroValue387
 t167:=Tryz.underlying305
 a167:=Tryz.isAgg305
 z167:=Tryz.sizeOf305
 v167:=Tryz.zeroValue305
 t168:=Tryz.underlying308
 a168:=Tryz.isAgg308
 z168:=Tryz.sizeOf308
 v168:=Tryz.zeroValue308
 t171:=Tryz.underlying159
 a171:=Tryz.isAgg159
 z171:=Tryz.sizeOf159
 v171:=Tryz.zeroValue159
 t173:=Tryz.underlying163
 a173:=Tryz.isAgg163
 z173:=Tryz.sizeOf163
 v173:=Tryz.zeroValue163
 t175:=Tryz.underlying341
 a175:=Tryz.isAgg341
 z175:=Tryz.sizeOf341
 v175:=Tryz.zeroValue341
 t210:=Tryz.underlying344
 a210:=Tryz.isAgg344
 z210:=Tryz.sizeOf344
 v210:=Tryz.zeroValue344
 t212:=Tryz.underlying228
 a212:=Tryz.isAgg228
 z212:=Tryz.sizeOf228
 v212:=Tryz.zeroValue228
 t213:=Tryz.underlying229
 a213:=Tryz.isAgg229
 z213:=Tryz.sizeOf229
 t232:=Tryz.underlying338
 a232:=Tryz.isAgg338
 z232:=Tryz.sizeOf338
 v232:=Tryz.zeroValue338
 t233:=Tryz.underlying339
 a233:=Tryz.isAgg339
 z233:=Tryz.sizeOf339
 v233:=Tryz.zeroValue339
 g15:=by kernel_rfl
 g16:=by kernel_rfl
 g17:=by kernel_rfl
 g18:=by kernel_rfl
 g19:=by kernel_rfl}
open Go.RowKit in
theorem Tryz.strconv_Atoi(s:ByteArray)(n:Int)(hl:s.size≤18)(h:Lib.atoi s.data.toList=some n)(w:World):
 Calls Tryz.prog 99 #[.string s] w fun e w'=>e= .returned (.tuple #[.int .i64 n,.nilIface])∧∃t,w'=Lib.bytesWorld w 5 t:=Any.strconv_Atoi Tryz.KI s n hl h w
def Tryz.KM:Go.Shelf.Ren:=⟨fun |171=>10|243=>30|246=>65|283=>94|284=>95|285=>96|286=>97|129=>136|317=>135|318=>137|319=>138|320=>139|337=>199|338=>200|n=>n,fun |3=>3|9=>9|2=>2|4=>4|171=>159|0=>0|53=>160|37=>22|5=>5|173=>163|212=>228|51=>100|20=>20|213=>229|46=>167|232=>338|233=>339|n=>n,fun |17=>0|18=>2|19=>3|n=>n⟩
theorem Tryz.KL:Go.Proofs.LaysM.n171 Tryz.prog Tryz.KM:={
 mixed:=by kernel_rfl
 f129:=Tryz.func136.trans (congrArg some (by kernel_rfl))
 f171:=Tryz.func10.trans (congrArg some (by kernel_rfl))
 f243:=Tryz.func30.trans (congrArg some (by kernel_rfl))
 f246:=Tryz.func65.trans (congrArg some (by kernel_rfl))
 f283:=Tryz.func94.trans (congrArg some (by kernel_rfl))
 f284:=Tryz.func95.trans (congrArg some (by kernel_rfl))
 f285:=Tryz.func96.trans (congrArg some (by kernel_rfl))
 f286:=Tryz.func97.trans (congrArg some (by kernel_rfl))
 f317:=Tryz.func135.trans (congrArg some (by kernel_rfl))
 f318:=Tryz.func137.trans (congrArg some (by kernel_rfl))
 f319:=Tryz.func138.trans (congrArg some (by kernel_rfl))
 f320:=Tryz.func139.trans (congrArg some (by kernel_rfl))
 f337:=Tryz.func199.trans (congrArg some (by kernel_rfl))
 f338:=Tryz.func200.trans (congrArg some (by kernel_rfl))
 t0:=Tryz.underlying0
 a0:=Tryz.isAgg0
 z0:=Tryz.sizeOf0
 v0:=Tryz.zeroValue0
 t2:=Tryz.underlying2
 a2:=Tryz.isAgg2
 z2:=Tryz.sizeOf2
 v2:=Tryz.zeroValue2
 t3:=Tryz.underlying3
 a3:=Tryz.isAgg3
 z3:=Tryz.sizeOf3
 v3:=Tryz.zeroValue3
 t4:=Tryz.underlying4
 a4:=Tryz.isAgg4
 z4:=Tryz.sizeOf4
 v4:=Tryz.zeroValue4
 t5:=Tryz.underlying5
 a5:=Tryz.isAgg5
 z5:=Tryz.sizeOf5
 v5:=Tryz.zeroValue5
 t9:=Tryz.underlying9
 a9:=Tryz.isAgg9
 z9:=Tryz.sizeOf9
 v9:=Tryz.zeroValue9
 t20:=Tryz.underlying20
 a20:=Tryz.isAgg20
 z20:=Tryz.sizeOf20
 v20:=Tryz.zeroValue20
 t37:=Tryz.underlying22
 a37:=Tryz.isAgg22
 z37:=Tryz.sizeOf22
 v37:=Tryz.zeroValue22
 t46:=Tryz.underlying167
 a46:=Tryz.isAgg167
 z46:=Tryz.sizeOf167
 v46:=Tryz.zeroValue167
 t51:=Tryz.underlying100
 a51:=Tryz.isAgg100
 z51:=Tryz.sizeOf100
 v51:=Tryz.zeroValue100
 t53:=Tryz.underlying160
 a53:=Tryz.isAgg160
 z53:=Tryz.sizeOf160
 v53:=Tryz.zeroValue160
 t171:=Tryz.underlying159
 a171:=Tryz.isAgg159
 z171:=Tryz.sizeOf159
 v171:=Tryz.zeroValue159
 t173:=Tryz.underlying163
 a173:=Tryz.isAgg163
 z173:=Tryz.sizeOf163
 v173:=Tryz.zeroValue163
 t212:=Tryz.underlying228
 a212:=Tryz.isAgg228
 z212:=Tryz.sizeOf228
 v212:=Tryz.zeroValue228
 t213:=Tryz.underlying229
 a213:=Tryz.isAgg229
 z213:=Tryz.sizeOf229
 t232:=Tryz.underlying338
 a232:=Tryz.isAgg338
 z232:=Tryz.sizeOf338
 v232:=Tryz.zeroValue338
 t233:=Tryz.underlying339
 a233:=Tryz.isAgg339
 z233:=Tryz.sizeOf339
 v233:=Tryz.zeroValue339
 g17:=by kernel_rfl
 g18:=by kernel_rfl
 g19:=by kernel_rfl
 i0:=by kernel_rfl
 i2:=by kernel_rfl
 i3:=by kernel_rfl
 i4:=by kernel_rfl
 i5:=by kernel_rfl
 i9:=by kernel_rfl
 i20:=by kernel_rfl
 i37:=by kernel_rfl
 i46:=by kernel_rfl
 i51:=by kernel_rfl
 i53:=by kernel_rfl
 i171:=by kernel_rfl
 i173:=by kernel_rfl
 i212:=by kernel_rfl
 i232:=by kernel_rfl
 i233:=by kernel_rfl
 m17:=by kernel_rfl
 m18:=by kernel_rfl
 m19:=by kernel_rfl}
open Go.RowKit Go.Sort Go.Lib in
theorem Tryz.strconv_Itoa(n:Int)(h0: -9223372036854775808≤n)(h1:n≤9223372036854775807)(w:World)(htab:Lib.TabIs Tryz.prog w "internal/strconv.uint64pow10" .u64 Lib.pow10Tab):
 Calls Tryz.prog 10 #[.int .i64 n] w fun e w'=>e= .returned (.string ⟨(Lib.itoa n).toArray⟩)∧∃k os,w'=grow (w.drewN k) os:=Any.strconv_Itoa Tryz.KL n h0 h1 w htab
def Tryz.KF:Go.Shelf.Ren:=⟨fun |146=>42|221=>85|268=>126|138=>127|143=>128|195=>193|197=>194|218=>195|219=>196|260=>242|217=>243|225=>244|224=>245|267=>246|266=>295|314=>296|n=>n,fun |9=>9|31=>65|3=>3|4=>4|0=>0|105=>298|21=>21|5=>5|46=>167|119=>274|139=>380|138=>379|146=>381|51=>100|n=>n,fun |1=>1|3=>6|4=>7|n=>n⟩
theorem Tryz.KE:Go.Proofs.Lays.n146 Tryz.prog Tryz.KF:={
 mixed:=by kernel_rfl
 f138:=Tryz.func127.trans (congrArg some (by kernel_rfl))
 f143:=Tryz.func128.trans (congrArg some (by kernel_rfl))
 f146:=Tryz.func42.trans (congrArg some (by kernel_rfl))
 f195:=Tryz.func193.trans (congrArg some (by kernel_rfl))
 f197:=Tryz.func194.trans (congrArg some (by kernel_rfl))
 f217:=Tryz.func243.trans (congrArg some (by kernel_rfl))
 f218:=Tryz.func195.trans (congrArg some (by kernel_rfl))
 f219:=Tryz.func196.trans (congrArg some (by kernel_rfl))
 f221:=Tryz.func85.trans (congrArg some (by kernel_rfl))
 f224:=Tryz.func245.trans (congrArg some (by kernel_rfl))
 f225:=Tryz.func244.trans (congrArg some (by kernel_rfl))
 f260:=Tryz.func242.trans (congrArg some (by kernel_rfl))
 f266:=Tryz.func295.trans (congrArg some (by kernel_rfl))
 f267:=Tryz.func246.trans (congrArg some (by kernel_rfl))
 f268:=Tryz.func126.trans (congrArg some (by kernel_rfl))
 f314:=Tryz.func296.trans (congrArg some (by kernel_rfl))
 t0:=Tryz.underlying0
 a0:=Tryz.isAgg0
 z0:=Tryz.sizeOf0
 v0:=Tryz.zeroValue0
 t3:=Tryz.underlying3
 a3:=Tryz.isAgg3
 z3:=Tryz.sizeOf3
 v3:=Tryz.zeroValue3
 t4:=Tryz.underlying4
 a4:=Tryz.isAgg4
 z4:=Tryz.sizeOf4
 v4:=Tryz.zeroValue4
 t5:=Tryz.underlying5
 a5:=Tryz.isAgg5
 z5:=Tryz.sizeOf5
 v5:=Tryz.zeroValue5
 t9:=Tryz.underlying9
 a9:=Tryz.isAgg9
 z9:=Tryz.sizeOf9
 v9:=Tryz.zeroValue9
 t21:=Tryz.underlying21
 a21:=Tryz.isAgg21
 z21:=Tryz.sizeOf21
 v21:=Tryz.zeroValue21
 t31:=Tryz.underlying65
 a31:=Tryz.isAgg65
 z31:=Tryz.sizeOf65
 v31:=Tryz.zeroValue65
 t46:=Tryz.underlying167
 a46:=Tryz.isAgg167
 z46:=Tryz.sizeOf167
 v46:=Tryz.zeroValue167
 t51:=Tryz.underlying100
 a51:=Tryz.isAgg100
 z51:=Tryz.sizeOf100
 v51:=Tryz.zeroValue100
 t105:=Tryz.underlying298
 a105:=Tryz.isAgg298
 z105:=Tryz.sizeOf298
 v105:=Tryz.zeroValue298
 t119:=Tryz.underlying274
 a119:=Tryz.isAgg274
 z119:=Tryz.sizeOf274
 t138:=Tryz.underlying379
 a138:=Tryz.isAgg379
 z138:=Tryz.sizeOf379
 v138:=Tryz.zeroValue379
 t139:=Tryz.underlying380
 a139:=Tryz.isAgg380
 z139:=Tryz.sizeOf380
 v139:=Tryz.zeroValue380
 t146:=Tryz.underlying381
 a146:=Tryz.isAgg381
 z146:=Tryz.sizeOf381
 v146:=Tryz.zeroValue381
 g1:=by kernel_rfl
 g3:=by kernel_rfl
 g4:=by kernel_rfl}
open Go.RowKit Go.Lib in
theorem Tryz.strings_Split(s sep:ByteArray)(m:Int)(w:World)(hs:s.size<4294967281)(hm:w.cell? ⟨1,0,none⟩=some (.int .i64 m))(h1:1≤sep.size):
 Calls Tryz.prog 42 #[.string s,.string sep] w fun e w'=>
  e= .returned (.slice (some ⟨w.heap.size,0,none⟩) (Lib.countB s sep+1) (Lib.countB s sep+1))∧w'=w.alloc (.cells ((Lib.splitB sep 0 (Lib.countB s sep) s).map Value.string).toArray 9):=Any.strings_Split Tryz.KE (by kernel_rfl) s sep m w hs hm h1
def Tryz.KO:Go.Shelf.Ren:=⟨fun |24=>43|n=>n,fun |24=>65|9=>9|3=>3|4=>4|0=>0|n=>n,fun |n=>n⟩
theorem Tryz.KN:Go.Proofs.Lays2.n24 Tryz.prog Tryz.KO:={
 mixed:=by kernel_rfl
 f24:=Tryz.func43.trans (congrArg some (by kernel_rfl))
 t0:=Tryz.underlying0
 a0:=Tryz.isAgg0
 z0:=Tryz.sizeOf0
 v0:=Tryz.zeroValue0
 t3:=Tryz.underlying3
 a3:=Tryz.isAgg3
 z3:=Tryz.sizeOf3
 v3:=Tryz.zeroValue3
 t4:=Tryz.underlying4
 a4:=Tryz.isAgg4
 z4:=Tryz.sizeOf4
 v4:=Tryz.zeroValue4
 t9:=Tryz.underlying9
 a9:=Tryz.isAgg9
 z9:=Tryz.sizeOf9
 v9:=Tryz.zeroValue9
 t24:=Tryz.underlying65
 a24:=Tryz.isAgg65
 z24:=Tryz.sizeOf65
 v24:=Tryz.zeroValue65
 i9:=by kernel_rfl}
open Go.RowKit Go.Lib Go.Sort in
theorem Tryz.slices_Delete_string(blk off cap i j:Nat)(zs:List (List UInt8))(w:World)(hH:Holds encStr w blk off zs.toArray)(hcap:zs.length≤cap)(hm:cap≤9223372036854775807)(hij:i≤j)(hj:j≤zs.length):
 Calls Tryz.prog 43 #[.slice (some ⟨blk,off,none⟩) zs.length cap,.int .i64 i,.int .i64 j] w fun e w'=>e= .returned (.slice (some ⟨blk,off,none⟩) (zs.length-(j-i)) cap)∧∃q,w'=putRow encStr (Sort.ahead w q) blk off (zs.take i++zs.drop j++List.replicate (j-i) []).toArray:=Any.slices_Delete_string Tryz.KN blk off cap i j zs w hH hcap hm hij hj
def Tryz.KH:Go.Shelf.Ren:=⟨fun |160=>98|232=>141|231=>140|227=>142|234=>144|233=>143|236=>146|235=>145|228=>201|271=>203|151=>202|197=>194|120=>248|152=>247|260=>242|137=>297|119=>298|224=>245|225=>244|217=>243|266=>295|n=>n,fun |9=>9|4=>4|3=>3|5=>5|117=>235|116=>234|0=>0|124=>238|21=>21|105=>298|46=>167|119=>274|139=>380|138=>379|n=>n,fun |3=>6|4=>7|n=>n⟩
theorem Tryz.KG:Go.Proofs.Lays.n160 Tryz.prog Tryz.KH:={
 mixed:=by kernel_rfl
 f119:=Tryz.func298.trans (congrArg some (by kernel_rfl))
 f120:=Tryz.func248.trans (congrArg some (by kernel_rfl))
 f137:=Tryz.func297.trans (congrArg some (by kernel_rfl))
 f151:=Tryz.func202.trans (congrArg some (by kernel_rfl))
 f152:=Tryz.func247.trans (congrArg some (by kernel_rfl))
 f160:=Tryz.func98.trans (congrArg some (by kernel_rfl))
 f197:=Tryz.func194.trans (congrArg some (by kernel_rfl))
 f217:=Tryz.func243.trans (congrArg some (by kernel_rfl))
 f224:=Tryz.func245.trans (congrArg some (by kernel_rfl))
 f225:=Tryz.func244.trans (congrArg some (by kernel_rfl))
 f227:=Tryz.func142.trans (congrArg some (by kernel_rfl))
 f228:=Tryz.func201.trans (congrArg some (by kernel_rfl))
 f231:=Tryz.func140.trans (congrArg some (by kernel_rfl))
 f232:=Tryz.func141.trans (congrArg some (by kernel_rfl))
 f233:=Tryz.func143.trans (congrArg some (by kernel_rfl))
 f234:=Tryz.func144.trans (congrArg some (by kernel_rfl))
 f235:=Tryz.func145.trans (congrArg some (by kernel_rfl))
 f236:=Tryz.func146.trans (congrArg some (by kernel_rfl))
 f260:=Tryz.func242.trans (congrArg some (by kernel_rfl))
 f266:=Tryz.func295.trans (congrArg some (by kernel_rfl))
 f271:=Tryz.func203.trans (congrArg some (by kernel_rfl))
 t0:=Tryz.underlying0
 a0:=Tryz.isAgg0
 z0:=Tryz.sizeOf0
 v0:=Tryz.zeroValue0
 t3:=Tryz.underlying3
 a3:=Tryz.isAgg3
 z3:=Tryz.sizeOf3
 v3:=Tryz.zeroValue3
 t4:=Tryz.underlying4
 a4:=Tryz.isAgg4
 z4:=Tryz.sizeOf4
 v4:=Tryz.zeroValue4
 t5:=Tryz.underlying5
 a5:=Tryz.isAgg5
 z5:=Tryz.sizeOf5
 v5:=Tryz.zeroValue5
 t9:=Tryz.underlying9
 a9:=Tryz.isAgg9
 z9:=Tryz.sizeOf9
 v9:=Tryz.zeroValue9
 t21:=Tryz.underlying21
 a21:=Tryz.isAgg21
 z21:=Tryz.sizeOf21
 v21:=Tryz.zeroValue21
 t46:=Tryz.underlying167
 a46:=Tryz.isAgg167
 z46:=Tryz.sizeOf167
 v46:=Tryz.zeroValue167
 t105:=Tryz.underlying298
 a105:=Tryz.isAgg298
 z105:=Tryz.sizeOf298
 v105:=Tryz.zeroValue298
 t116:=Tryz.underlying234
 a116:=Tryz.isAgg234
 z116:=Tryz.sizeOf234
 t117:=Tryz.underlying235
 a117:=Tryz.isAgg235
 z117:=Tryz.sizeOf235
 v117:=Tryz.zeroValue235
 t119:=Tryz.underlying274
 a119:=Tryz.isAgg274
 z119:=Tryz.sizeOf274
 t124:=Tryz.underlying238
 a124:=Tryz.isAgg238
 z124:=Tryz.sizeOf238
 v124:=Tryz.zeroValue238
 t138:=Tryz.underlying379
 a138:=Tryz.isAgg379
 z138:=Tryz.sizeOf379
 v138:=Tryz.zeroValue379
 t139:=Tryz.underlying380
 a139:=Tryz.isAgg380
 z139:=Tryz.sizeOf380
 v139:=Tryz.zeroValue380
 g3:=by kernel_rfl
 g4:=by kernel_rfl}
end Go.Proofs
namespace Go.Proofs.YtmhkpafkadijgaaGreatDoor.Gw
open Go Go.RowKit Go.Shelf
def sb(s:ByteArray):List Int:=s.data.toList.map fun b=>((b.toNat:Nat):Int)
theorem Dg(s:ByteArray):Lib.strCells s=(bm.int .u8).all (sb s):=by
 rw[Lib.strCells_eq,sb,qC,Z8];rfl
@[simp] theorem YQ (s:ByteArray):(sb s).length=s.size:=by unfold sb;rw[x_];rfl
section
variable{P:Program}{ρ:Option Nat}{N:Nat}{t:Fr}{w w0:World}{X:Nat→Prop}{L:List Rs}{R:Value→World→Prop}{d:Option Nat}{ty T U E:TypeId}{ps:String}{af:Array Edge}{g:Option (Nat×Bool)}{x y:Operand}
theorem Ps{v:Value}{l:List Int}{s:ByteArray}(hT:Sl P T E 1 1 (.int .u8 0))(hU:P.underlying U=some .string)(ho:(Rs.own (.int .u8) E v l).inv w)(hb:l.length+s.size≤140737488355328):
 ∃v' w',(Builtin.append_ #[T,U] ty #[v,.string s]).run P w= .ok v' w'∧(Rs.own (.int .u8) E v' (l++sb s)).inv w'∧Ch (Rs.own (.int .u8) E v l).fp w w'∧(∀b,v'.ownBlock=some b→v.ownBlock=some b∨w.heap.size≤b)∧(v'= .slice none 0 0↔v= .slice none 0 0∧s.size=0):=by
 obtain⟨t1,i,t2,t3,t4,t5,t6,t7⟩:=hT
 have h63:l.length+s.size≤maxLen:=u_
 have ho':w.ownsRow 0 E 1 v l.length ((bm.int .u8).all l):=ho
 have fin:∀v' w',w'.ownsRow 0 E 1 v' (l.length+s.size) ((bm.int .u8).all l++Lib.strCells s)→(Rs.own (.int .u8) E v' (l++sb s)).inv w':=fun v' w' h=>by
  show w'.ownsRow 0 E 1 v' (l++sb s).length ((bm.int .u8).all (l++sb s))
  rw[E_,YQ,(bm.int .u8).qB,←Dg];exact h
 rcases ho'.2 with⟨hv,hl⟩|⟨g,cap,cur,hv,_,hh,h4,h5,h6,h7⟩
 ·have hl':l=[]:=Ψ hl
  subst hl'
  have hw:w.ownsRow w.heap.size E 1 v 0 []:=⟨j_,.inl ⟨hv,rfl⟩⟩
  obtain⟨v',w',hr,ho2,hg,hi⟩:=Lib.run_append_own_string (P:=P) (w:=w) w.heap.size T U ty E i t1 hU t2 t5 t3 t4 v 0 [] hw s (by simpa using h63) NQ (aI _)
  refine⟨v',w',hr,fin _ _ ⟨by simpa [bm.all] using ho2.1,?_⟩,.grown hg (fun k hk=>hk),fun b hb=>?_,hi⟩
  ·rcases ho2.2 with⟨a,b⟩|⟨g,cap,cur,a,_,c⟩
   ·exact .inl ⟨a,by simpa using b⟩
   exact .inr ⟨g,cap,cur,by simpa using a,jc _,by simpa [bm.all] using c⟩
  rcases ho2.2 with⟨a,_⟩|⟨g,cap,cur,a,c,_⟩
  ·rw[a]at hb;cases hb
  rw[a]at hb;cases hb;exact .inr c
 obtain⟨v',w',hr,ho2,hg,hi⟩:=Lib.run_append_own_string (P:=P) (w:=w) 0 T U ty E i t1 hU t2 t5 t3 t4 v l.length _ ho' s h63 hb (jc _)
 refine⟨v',w',hr,fin _ _ ho2,.grown hg (fun k hk=>hk),fun b hb'=>?_,hi⟩
 subst hv
 by_cases hroom:l.length+s.size≤cap
 ·have hr2:=Lib.run_append_room_string (P:=P) (w:=w) T U ty E i t1 hU t2 t3 g l.length cap cur hh s hroom a_
  have heq:=hr.symm.trans hr2
  have hv':v'= .slice (some ⟨g,0,none⟩) (l.length+s.size) cap:=by injection heq
  rw[hv']at hb';exact .inl hb'
 have holds:∀j u,((bm.int .u8).all l)[j]? =some u→w.cell? ((⟨g,0,none⟩:Addr).add j)=some u:=World.ownsRow.cells (g:=g) ho' rfl
 have hr2:=Lib.run_append_grow_string (P:=P) (w:=w) T U ty E i _ t1 hU t2 t5 ⟨g,0,none⟩ l.length cap _ (by rw[t3];exact(bm.int .u8).fC l) holds s a_ a_ (by rw[t4];exact growslice_fits a_ a_)
 have heq:=hr.symm.trans hr2
 have hv':v'= .slice (some ⟨w.heap.size,0,none⟩) (l.length+s.size) (grownCap w (l.length+s.size) cap E):=by injection heq
 rw[hv']at hb';cases hb';exact .inr (aI _)
end
def Rs.df(b:Nat)(v:Value)(l:List Int):Rs where
 fp:=fun x=>x=b∨v.ownBlock=some x
 inv:=fun w=>(∃p,(p= .pointer none∨p= .pointer (some ⟨b,0,none⟩))∧(Rs.blk b #[p,v] 70).inv w)∧(Rs.own (.int .u8) 5 v l).inv w∧v.ownBlock≠some b∧(l=[]→v= .slice none 0 0)
 loc:=by
  rintro w w' h ⟨⟨p,hp,h1⟩,h2,h3⟩
  exact⟨⟨p,hp,(Rs.blk b #[p,v] 70).loc w w' (fun x hx=>h x (.inl hx)) h1⟩,(Rs.own (.int .u8) 5 v l).loc w w' (fun x hx=>h x (.inr hx)) h2,h3⟩
 bd:=by
  rintro w ⟨⟨p,_,h1⟩,h2,_⟩ x hx
  exact hx.elim (fun e=>(Rs.blk b #[p,v] 70).bd w h1 x e) (fun e=>(Rs.own (.int .u8) 5 v l).bd w h2 x e)
theorem Fx{b:Nat}{v p:Value}{l:List Int}{w:World}(h1:(Rs.blk b #[p,v] 70).inv w)(h2:(Rs.own (.int .u8) 5 v l).inv w)(h3:v.ownBlock≠some b):St (Rs.df b v l).fp w w [.blk b #[p,v] 70,.own (.int .u8) 5 v l]:=by
 refine⟨.refl _ _,?_,?_,?_⟩
 ·intro r hr;simp at hr;rcases hr with rfl|rfl
  ·exact h1
  exact h2
 ·intro r hr x hx;simp at hr;rcases hr with rfl|rfl
  ·exact .inr (.inl hx)
  exact .inr (.inr hx)
 refine Ξ.2 ⟨fun r hr x hx hy=>?_,Dc _ _⟩
 rw[Q_.1 hr]at hy
 have hx':x=b:=hx
 have hy':v.ownBlock=some x:=hy
 exact h3 (by rw[hy',hx'])
theorem Fv{w:World}:(Rs.df w.heap.size (.slice none 0 0) []).inv (w.alloc (.cells #[.pointer none,.slice none 0 0] 70)):=
 ⟨⟨_,.inl rfl,FO⟩,⟨PS,.inl ⟨rfl,rfl⟩⟩,by simp[Value.ownBlock],fun _=>rfl⟩
theorem Fu{b:Nat}{v p:Value}{w:World}(hp:p= .pointer none∨p= .pointer (some ⟨b,0,none⟩))(h:(Rs.blk b #[p,v] 70).inv w):
 Calls Tryz.prog 86 #[.pointer (some ⟨b,0,none⟩)] w fun e w'=>e= .returned (.tuple #[])∧(Rs.blk b #[.pointer (some ⟨b,0,none⟩),v] 70).inv w'∧Ch (fun x=>x=b) w w':=by
 rcases hp with rfl|rfl
 ·refine(Any.Builder_copyCheck_fresh {Tryz.pQ with} Tryz.oP.toX72 b w (ak h EJ) ?_ (dR h)).mono ?_
  ·simp only[Rs.blk]at h
   simp[World.shape?,h];rfl
  rintro e w' ⟨rfl,rfl⟩
  exact⟨rfl,by have:=ll (o:=0) (.pointer (some ⟨b,0,none⟩)) h;simpa using this,.set _ _ _ rfl⟩
 refine(Any.Builder_copyCheck_used {Tryz.pQ with} Tryz.oP.toX72 b w (ak h EJ)).mono ?_
 rintro e w' ⟨rfl,rfl⟩
 exact⟨rfl,h,.refl _ _⟩
section
variable{ρ:Option Nat}{N:Nat}{t:Fr}{w w0:World}{X:Nat→Prop}{L:List Rs}{R:Value→World→Prop}{d:Option Nat}{ty T U E:TypeId}{ps:String}{af:Array Edge}{g:Option (Nat×Bool)}{x y:Operand}
theorem QY{b:Nat}{v p:Value}{ats:Array TypeId}(H:St X w0 w L)(q:Nat)(hq:L[q]? =some (.blk b #[p,v] 70))(hp:p= .pointer none∨p= .pointer (some ⟨b,0,none⟩))(hf:En Tryz.prog 86)(hx:ev t x= .pointer (some ⟨b,0,none⟩))(h:∀w',St X w0 w' (L.set q (.blk b #[.pointer (some ⟨b,0,none⟩),v] 70))→R (.tuple #[]) w'):Yd Tryz.prog ρ N ⟨d,.call ⟨.value (.func 86),#[x],ats⟩,ty,ps,af,g⟩ t w R:=by
 refine au hf (vs:=[.pointer (some ⟨b,0,none⟩)]) (by simp[hx]) ((Fu hp (H.Gt q hq)).mono ?_)
 rintro _ w' ⟨rfl,h1,h2⟩
 exact⟨_,rfl,h w' (H.put q hq h2 h1 (fun _ e=> .inl e))⟩
theorem QP{P:Program}{v:Value}{l:List Int}{s:ByteArray}(hT:Sl P T E 1 1 (.int .u8 0))(hU:P.underlying U=some .string)(H:St X w0 w L)(q:Nat)(hq:L[q]? =some (.own (.int .u8) E v l))(hx:ev t x=v)(hy:ev t y= .string s)(hb:l.length+s.size≤140737488355328)(h:∀v' w',(v'= .slice none 0 0↔v= .slice none 0 0∧s.size=0)→St X w0 w' (L.set q (.own (.int .u8) E v' (l++sb s)))→R v' w'):Yd P ρ N ⟨d,.call ⟨.builtin .append,#[x,y],#[T,U]⟩,ty,ps,af,g⟩ t w R:=by
 obtain⟨v',w',h1,h2,h3,h4,h5⟩:=Ps (P:=P) (ty:=ty) hT hU (H.Gt q hq) hb
 refine eD (v:=v') (w':=w') ?_ (h v' w' h5 (H.put q hq h3 h2 h4))
 simp[execOp,resolve,invoke,builtin,hx,hy,h1]
end
end Go.Proofs.YtmhkpafkadijgaaGreatDoor.Gw
namespace Go.Proofs.YtmhkpafkadijgaaGreatDoor.Gw
open Go Go.RowKit
theorem Qt:En Tryz.prog 86:=⟨_,_,Tryz.func86,d_,rfl⟩
theorem DR:Fa Tryz.prog 70 1 1:=⟨_,_,Tryz.underlying70,rfl,rfl,0,d_⟩
theorem Qu:Sc Tryz.prog 22:=⟨_,Tryz.underlying22,rfl⟩
theorem Qv:Sl Tryz.prog 22 5 1 1 (.int .u8 0):=ja Tryz.underlying22 d_ rfl f_
theorem Qw:Sz Tryz.prog 22 1:=K_
theorem Qs:((#[9]:Array TypeId)[0]?).bind Tryz.prog.underlying=some .string:=by show Option.bind (some 9) _=_;rw[aJ];exact Tryz.underlying9
theorem FB{w:World}{YX:Nat}{p0_ v0_:Value}{l0_:List Int}{s0_:ByteArray}(hp_:p0_= .pointer none∨p0_= .pointer (some ⟨YX,0,none⟩))(hn_:l0_.length+s0_.size≤140737488355328)(h1_:(Rs.blk YX #[p0_,v0_] 70).inv w)(h2_:(Rs.own (.int .u8) 5 v0_ l0_).inv w)(h3_:v0_.ownBlock≠some YX):
 Calls Tryz.prog 44 #[.pointer (some ⟨YX,0,none⟩),.string s0_] w fun e w'=>e= .returned (.tuple #[.int .i64 (s0_.size:Int),.nilIface])∧∃v':Value,(v'= .slice none 0 0↔v0_= .slice none 0 0∧s0_.size=0)∧St (Rs.df YX v0_ l0_).fp w w' [.blk YX #[.pointer (some ⟨YX,0,none⟩),v'] 70,.own (.int .u8) 5 v' (l0_++sb s0_)]:=by
 have H:=Fx h1_ h2_ h3_
 refine aP (N:=19) (args:=[.pointer (some ⟨YX,0,none⟩),.string s0_]) Tryz.func44 rfl rfl j_ ?_
 refine rg (v_ rfl (sg (.int .i64 0) rfl) (v_ rfl (sg (.nilIface) rfl) (nl (rg (v_ rfl (mv (.pointer (some ⟨YX,0,none⟩)) rfl) (e_ rfl (QY H 0 rfl hp_ Qt rfl (fun w H=>nl (rg (v_ rfl (mv (.pointer (some ⟨YX,0,none⟩)) rfl) (v_ rfl (mv (.pointer (some ⟨YX,0,none⟩)) rfl) (v_ rfl (bw rfl) (v_ rfl (az DR rfl) (v_ rfl (av Qu rfl (ak (H.Gt 0 rfl) rfl)) (v_ rfl (mv (.string s0_) rfl) ?_)))))))))))))))
 have g3:=hn_
 refine e_ rfl (QP Qv Tryz.underlying9 H 1 rfl rfl rfl a_ (fun v1 w hv2 H=>v_ rfl (bw rfl) (v_ rfl (az DR rfl) ?_)))
 obtain⟨p4,n5,c6,rfl⟩:=bX (H.Gt 1 rfl)
 refine s_ (cQ Qw H 0 rfl rfl rfl rfl rfl (fun w H=>nl (rg (v_ rfl (mv (.string s0_) rfl) (v_ rfl (uh Qs rfl) (v_ rfl (sg (.int .i64 (s0_.size:Int)) rfl) (v_ rfl (sg (.nilIface) rfl) (nl (aj ?_)))))))))
 exact⟨.inl rfl,_,tk0 rfl ⟨aB rfl (ad (ad ai)),rfl,_,hv2,H⟩⟩
theorem FA{b:Nat}{v:Value}{l:List Int}{s:ByteArray}{w:World}(h:(Rs.df b v l).inv w)(hn:l.length+s.size≤140737488355328):
 Calls Tryz.prog 44 #[.pointer (some ⟨b,0,none⟩),.string s] w fun e w'=>e= .returned (.tuple #[.int .i64 (s.size:Int),.nilIface])∧∃v':Value,St (Rs.df b v l).fp w w' [.df b v' (l++sb s)]:=by
 obtain⟨⟨p,hp,h1⟩,h2,h3,h4⟩:=h
 refine(FB hp hn h1 h2 h3).mono ?_
 rintro _ w' ⟨rfl,v',hv,H⟩
 refine⟨rfl,v',H.ch,?_,?_,Dc _ _⟩
 ·intro r hr
  rw[Q_.1 hr]
  refine⟨⟨_,.inr rfl,H.Gt 0 rfl⟩,H.Gt 1 rfl,fun e=>?_,fun e=>?_⟩
  ·exact H.apart 0 1 f_ rfl rfl b rfl e
  obtain⟨e1,e2⟩:=List.append_eq_nil_iff.1 e
  refine hv.2 ⟨h4 e1,?_⟩
  rw[←YQ,e2];rfl
 intro r hr x hx
 rw[Q_.1 hr]at hx
 rcases hx with hx|hx
 ·exact H.fp _ (T_ (n:=0) j_) x hx
 exact H.fp _ (T_ (n:=1) j_) x hx
end Go.Proofs.YtmhkpafkadijgaaGreatDoor.Gw
namespace Go.Proofs.YtmhkpafkadijgaaGreatDoor.Gw
open Go Go.RowKit Go.Shelf
theorem Gl{w:World}{g n:Nat}(h:∃c e fz,w.heap[g]? =some (.cells c e fz)):Ch (fun x=>x=g) w (w.freeze ⟨g,0,none⟩ n):=by
 unfold World.freeze
 split
 ·exact .refl _ _
 refine⟨rfl,rfl,rfl,j_,fun b hb hx=>?_⟩
 have:¬b=g:=hx
 simp[Ns,show ¬g=b from fun e=>this e.symm]
theorem Fz{P:Program}{ρ:Ren}(L:Lays.n169 P ρ)(X:Builder.Extra P ρ)(b g cap:Nat)(p:Value)(cur:Array Value)(l:List UInt8)(w:World)(h0:l≠ [])(hbk:w.heap[b]? =some (.cells #[p,.slice (some ⟨g,0,none⟩) l.length cap] (ρ.t 72) (0,0)))(hg:w.heap[g]? =some (.cells cur (ρ.t 5) (0,0)))(hnc:l.length≤cap)(hcm:cap≤maxLen)(hcs:cur.size=cap)(htake:cur.toList.take l.length=Lib.byteCells l):
 Calls P (ρ.f 169) #[.pointer (some ⟨b,0,none⟩)] w fun e w'=>e= .returned (.string ⟨l.toArray⟩)∧Ch (fun x=>x=g) w w':=by
 have hl0:l.length≠0:=by simpa using h0
 have c1:w.drew.cell? ⟨b,1,none⟩=some (.slice (some ⟨g,0,none⟩) l.length cap):=by
  have:w.drew.heap[b]? =some (.cells #[p,.slice (some ⟨g,0,none⟩) l.length cap] (ρ.t 72) (0,0)):=hbk
  rw[Lib.cell_of_heap this];rfl
 have hSD:(Builtin.unsafeSliceData_ #[ρ.t 37] (ρ.t 127) #[.slice (some ⟨g,0,none⟩) l.length cap]).run P w.drew= .ok (.pointer (some ⟨g,0,none⟩)) w.drew:=
  Lib.run_unsafeSliceData_row _ _ _ _ _ _ a_
 have hUS:(Builtin.unsafeString_ #[ρ.t 127,ρ.t 3] (ρ.t 9) #[.pointer (some ⟨g,0,none⟩),.int .i64 l.length]).run P w.drew= .ok (.string ⟨l.toArray⟩) (w.drew.freeze ⟨g,0,none⟩ l.length):=by
  refine Lib.run_unsafeString_row w.drew (ρ.t 127) (ρ.t 3) (ρ.t 9) (ρ.t 5) L.t127 X.cellsByte g cur.size (by have hg':w.drew.heap[g]? =some (.cells cur (ρ.t 5) (0,0)):=hg;simp[World.shape?,hg']) l h0 a_ (by unfold maxLen at hcm;omega) ?_
  intro j x hx
  have hg':w.drew.heap[g]? =some (.cells cur (ρ.t 5) (0,0)):=hg
  have hj:(Lib.byteCells l)[j]? =some (Value.int .u8 x.toNat):=by simp[Lib.byteCells,hx]
  rw[←htake,Ac]at hj
  have hj2:cur[j]? =some (Value.int .u8 x.toNat):=by
   split at hj
   ·rw[Array.getElem?_toList]at hj;exact hj
   cases hj
  rw[Addr.add_lit]
  simp[World.cell?,hg',hj2]
 have mixed:=L.mixed
 have t72:=L.t72;have a72:=L.a72;have z72:=L.z72;have v72:=L.v72;have u72:=run_underlying L.t72
 have t70:=L.t70;have a70:=L.a70;have z70:=L.z70;have v70:=L.v70;have u70:=run_underlying L.t70
 have t37:=L.t37;have a37:=L.a37;have z37:=L.z37;have v37:=L.v37;have u37:=run_underlying L.t37
 have t127:=L.t127;have a127:=L.a127;have z127:=L.z127;have v127:=L.v127;have u127:=run_underlying L.t127
 have t3:=L.t3;have a3:=L.a3;have z3:=L.z3;have v3:=L.v3;have u3:=run_underlying L.t3
 have t9:=L.t9;have a9:=L.a9;have z9:=L.z9;have v9:=L.v9;have u9:=run_underlying L.t9
 have t5:=X.t5;have a5:=X.a5;have z5:=X.z5;have v5:=X.v5;have u5:=run_underlying X.t5
 go_enter L.f169,Body.n169_ntmps ρ
 go_wp2
 go_region_o
 all_goals (go_wp2;go_ret;exact⟨rfl,(Ch.drew _ w).trans (Gl ⟨cur,_,_,hg⟩)⟩)
theorem F5(s:ByteArray):Lib.byteCells s.data.toList=(bm.int .u8).all (sb s):=by rw[←Lib.strCells_eq,Dg]
theorem Fy{b:Nat}{v:Value}{s:ByteArray}{w:World}(h:(Rs.df b v (sb s)).inv w):
 Calls Tryz.prog 45 #[.pointer (some ⟨b,0,none⟩)] w fun e w'=>e= .returned (.string s)∧Ch (Rs.df b v (sb s)).fp w w':=by
 obtain⟨⟨p,hp,h1⟩,h2,h3,h4⟩:=h
 rcases h2.2 with⟨hv,hl⟩|⟨g,cap,cur,hv,_,hh,e4,e5,e6,e7⟩
 ·subst hv
  have hs:s=⟨#[]⟩:=by
   apply ZR;apply EZ
   have:s.data.toList.length=0:=by simpa [sb] using hl
   exact Ψ this
  refine(Any.Builder_String_nil {Tryz.pQ with} Tryz.oP w.heap.size b p w h1).mono ?_
  rintro _ w' ⟨rfl,hb⟩
  exact⟨by rw[hs],.wT hb⟩
 subst hv
 have hl:(sb s).length=s.data.toList.length:=by simp[sb]
 by_cases h0:s.data.toList=[]
 ·have:=h4 (by simp[sb,h0]);cases this
 rw[hl]at h1 e4
 rw[hl]at e7 h3
 refine(Fz {Tryz.pQ with} Tryz.oP b g cap p cur s.data.toList w h0 h1 hh e4 e5 (by rw[e6];exact EI _) (by rw[F5,←e7];congr 1;exact(EI _).symm)).mono ?_
 rintro _ w' ⟨rfl,hc⟩
 refine⟨rfl,hc.mono fun x _ e=> .inr ?_⟩
 have e':x=g:=e
 subst e';rfl
theorem PB(a b:ByteArray):sb a++sb b=sb (cat a b):=by simp[sb,cat]
variable[de]
def Rs.lv:Rs where
 fp:=fun x=>x=0∨x=1
 inv:=fun w=>(Lib.TabIs Tryz.prog w "internal/strconv.uint64pow10" .u64 Lib.pow10Tab∧∃m:Int,w.cell? ⟨1,0,none⟩=some (.int .i64 m))∧w.heap[0]? =de.p∧w.heap[1]? =de.m
 loc:=by
  rintro w w' h ⟨⟨h1,m,h2⟩,h3,h4⟩
  refine⟨⟨?_,m,(World.cell?_of_block (w:=w) (a:=⟨1,0,none⟩) (h _ (.inr rfl))).trans h2⟩,(h _ (.inl rfl)).trans h3,(h _ (.inr rfl)).trans h4⟩
  have e:Tryz.prog.globalNamed "internal/strconv.uint64pow10" =some 0:=d_
  unfold Lib.TabIs World.var? at h1⊢
  rw[e,aJ]at h1⊢
  rw[h _ (.inl rfl)];exact h1
 bd:=by
  rintro w ⟨⟨h1,m,h2⟩,_⟩ x (rfl|rfl)
  ·have e:Tryz.prog.globalNamed "internal/strconv.uint64pow10" =some 0:=d_
   unfold Lib.TabIs World.var? at h1
   rw[e,aJ]at h1
   rcases Me 0 w.heap.size with h'|h'
   ·exact h'
   rw[Nj h']at h1;cases h1
  unfold World.cell? at h2
  rcases Me 1 w.heap.size with h'|h'
  ·exact h'
  rw[Nj (by exact h')]at h2;cases h2
theorem xE{w w':World}(h:Below w.heap.size w w'):St no w w' []:=⟨.wT h,j_,j_,.nil⟩
theorem Qc{r:Rs}{w w':World}(hr:r.inv w)(h:Below w.heap.size w w'):St r.fp w w' [r]:=
 (St.start hr).call (.wT h)
def num(n:Int):List UInt8:=
 let u:=n.toNat
 if u<10 then [UInt8.ofNat (48+u)]else if u<100 then [UInt8.ofNat (48+u/10),UInt8.ofNat (48+u%10)]else [UInt8.ofNat (48+u/100),UInt8.ofNat (48+u/10%10),UInt8.ofNat (48+u%10)]
theorem MD{n:Int}(h0:0≤n)(h1:n<1000):Lib.itoa n=num n:=by
 obtain⟨u,rfl⟩:∃u:Nat,n=u:=⟨n.toNat,a_⟩
 have hu:u<1000:=a_
 rw[Lib.itoa_nonneg]
 unfold num
 simp only[n_]
 by_cases a:u<10
 ·rw[M_ a,Lib.decDigits_one a]
 rw[I_ a]
 by_cases b:u<100
 ·rw[M_ b,Lib.decDigits_two a b]
 rw[I_ b,Lib.decDigits,dif_neg a,Lib.decDigits_two a_ a_]
 rw[Nat.div_div_eq_div_mul];rfl
def strconv_Itoa.f(a0:Int):Option ByteArray:=an (decide (0≤a0∧a0<1000)) (some ⟨⟨num a0⟩⟩)
theorem strconv_Itoa.calls{w0:World}{a0:Int}{r:ByteArray}(hf:Rs.lv.inv w0)(E:strconv_Itoa.f a0=some r):Calls Tryz.prog 10 #[.int .i64 a0] w0 fun e w'=>e= .returned (.string r)∧St Rs.lv.fp w0 w' [.lv]:=by
 obtain⟨⟨h0,h1⟩,E⟩:=ar E
 cases E
 refine(Tryz.strconv_Itoa a0 a_ a_ w0 hf.1.1).mono ?_
 rintro _ w' ⟨rfl,k,os,rfl⟩
 exact⟨by rw[MD h0 h1],Qc hf (Lib.below_grow _ w0 (aI _) k os)⟩
def strconv_Atoi.f(a0:ByteArray):Option Int:=an (decide (a0.size≤18)) (Lib.atoi a0.data.toList)
theorem strconv_Atoi.calls{w0:World}{a0:ByteArray}{r:Int}(E:strconv_Atoi.f a0=some r):Calls Tryz.prog 99 #[.string a0] w0 fun e w'=>e= .returned (.tuple #[.int .i64 r,.nilIface])∧St no w0 w' []:=by
 obtain⟨h0,E⟩:=ar E
 refine(Tryz.strconv_Atoi a0 r h0 E w0).mono ?_
 rintro _ w' ⟨rfl,t,rfl⟩
 exact⟨rfl,xE (Joins.below_bytesWorld _ _ _ _ (aI _))⟩
def ni.f(a0 a1:ByteArray):Option ByteArray:=an (decide (a0.size≤140737488355328)&&decide (a1.size<4294967281)&&a1.data.toList.all (fun b=>Nat.blt b.toNat 128)) (some ⟨⟨Lib.trimS a0.data.toList a1.data.toList⟩⟩)
theorem ni.calls{w0:World}{a0 a1 r:ByteArray}(E:ni.f a0 a1=some r):Calls Tryz.prog 98 #[.string a0,.string a1] w0 fun e w'=>e= .returned (.string r)∧St no w0 w' []:=by
 unfold ni.f an at E
 cases h:(decide (a0.size≤140737488355328)&&decide (a1.size<4294967281)&&a1.data.toList.all (fun b=>Nat.blt b.toNat 128))with
 |false=>rw[h]at E;cases E
 |true=>
  rw[h]at E;cases E
  simp only[S_,Ny]at h
  refine(Any.strings_Trim_laid Tryz.KG d_ a0 a1 w0 a_ a_ (fun j b hb=>by have:=Y_.1 h.2 b (ω hb);exact Z_ this)).mono ?_
  rintro _ w' ⟨rfl,hb⟩
  exact⟨rfl,xE hb⟩
def dN(c:UInt8):List UInt8→List (List UInt8)
 | []=> [[]]
 |b::l=>if b==c then []::dN c l else match dN c l with
  | []=> [[b]]
  |h::t=>(b::h)::t
theorem Rl(c:UInt8):∀l,dN c l≠ []
 | []=>by simp[dN]
 |b::l=>by
  rw[dN];split
  ·simp
  split<;>simp
theorem Dl(c:UInt8):∀l:List UInt8,Lib.splitK [c] 0 (Lib.count l [c]) l=dN c l
 | []=>by rw[Lib.count_miss EJ];rfl
 |b::l=>by
  have ih:=Dl c l
  have hix:Lib.index (b::l) [c]=Lib.indexByte (b::l) c:=Lib.index_one _ _
  by_cases h:(b==c)=true
  ·have h0:Lib.index (b::l) [c]=((0:Nat):Int):=by rw[hix,Lib.indexByte,M_ h];rfl
   rw[Lib.count_hit j_ h0,aaL 1,Lib.splitK,h0,I_ f_]
   simp only[n_,FW,bP,List.length_singleton,List.drop_succ_cons,Γ]
   rw[ih,dN,M_ h]
  rw[dN,I_ h]
  by_cases hm:Lib.index l [c]= -1
  ·have h0:Lib.index (b::l) [c]= -1:=by
    rw[hix,Lib.indexByte,I_ h,M_];rw[←Lib.index_one,hm];rfl
   rw[Lib.count_miss h0]
   rw[Lib.count_miss hm]at ih
   rw[←ih];rfl
  have hge:=Lib.index_ge l [c]
  obtain⟨j,hj⟩:∃j:Nat,Lib.index l [c]=j:=⟨(Lib.index l [c]).toNat,a_⟩
  have h0:Lib.index (b::l) [c]=((j+1:Nat):Int):=by
   rw[hix,Lib.indexByte,I_ h,I_]
   ·rw[←Lib.index_one,hj];rfl
   rw[←Lib.index_one];simpa using hm
  rw[Lib.count_hit j_ hj,aaL 1,Lib.splitK,hj,I_ j_]at ih
  rw[Lib.count_hit j_ h0,aaL 1,Lib.splitK,h0,I_ (by first|(simp;done)|(simp;omega))]
  simp only[n_,Gy,List.length_singleton,List.drop_succ_cons,List.take_succ_cons]at ih⊢
  rw[←ih]
def strings_Split.f(a0 a1:ByteArray):Option (List ByteArray):=
 match a1.data.toList with
 | [c]=>an (decide (a0.size≤4294967280)) (some ((dN c a0.data.toList).map fun l=>⟨⟨l⟩⟩))
 |_=>none
theorem strings_Split.calls{w0:World}{a0 a1:ByteArray}{r:List ByteArray}(hf:Rs.lv.inv w0)(E:strings_Split.f a0 a1=some r):Calls Tryz.prog 42 #[.string a0,.string a1] w0 fun e w'=>∃u0:Value,e= .returned u0∧St Rs.lv.fp w0 w' [.lv,.own .str 9 u0 r]:=by
 unfold strings_Split.f at E
 split at E
 ·rename_i c hc
  obtain⟨h0,E⟩:=ar E
  cases E
  obtain⟨⟨h1,m,hm⟩,_⟩:=id hf
  have hs:a1.size=1:=by show a1.data.size=1;rw[←LQ,hc];rfl
  have hb:=Lib.splitB_data a1 0 (Lib.countB a0 a1) a0
  have hl:=Lib.splitB_all a1 a_ 0 _ a0 rfl
  have hr:Lib.splitB a1 0 (Lib.countB a0 a1) a0=(dN c a0.data.toList).map fun l=>⟨⟨l⟩⟩:=by
   have e:Lib.countB a0 a1=Lib.count a0.data.toList [c]:=by unfold Lib.countB;rw[hc]
   rw[e,hc,Dl]at hb
   rw[e,←hb,Z8]
   conv=>lhs;rw[←List.map_id (Lib.splitB a1 0 _ a0)]
   rfl
  refine(Tryz.strings_Split a0 a1 m w0 a_ hm a_).mono ?_
  rintro _ w' ⟨rfl,rfl⟩
  refine⟨_,rfl,(St.start hf).new (.alloc _ _ _) ?_ ?_⟩
  ·rw[←hr]
   refine⟨bm.fC _ _,.inr ⟨w0.heap.size,_,_,by rw[hl],jc _,by show(w0.heap.push _)[w0.heap.size]? =_;simp;rfl,by rw[hl];exact aI _,?_,?_,?_⟩⟩
   ·have:=Lib.countB_le a1 a_ a0.size a0 (aI _);unfold maxLen;omega
   ·simp[hl,bm.str]
   rw[D_ (by simp[hl,bm.str])]
   simp[bm.all,bm.str,List.map_eq_flatMap]
  intro b hb
  have:(Value.slice (some ⟨w0.heap.size,0,none⟩) _ _).ownBlock=some b:=hb
  cases this;exact aI _
 cases E
def strings_Join.f(a0:List ByteArray)(a1:ByteArray):Option ByteArray:=an (decide (a0.length≤140737488355328∧(Lib.join (a0.map (·.data.toList)) a1.data.toList).length≤140737488355328)) (some ⟨⟨Lib.join (a0.map (·.data.toList)) a1.data.toList⟩⟩)
theorem strings_Join.calls{w0:World}{a0:List ByteArray}{a1:ByteArray}{v0_:Value}{r:ByteArray}(h0:Rd (.of .str) w0 (Ol no w0) v0_ a0)(E:strings_Join.f a0 a1=some r):Calls Tryz.prog 110 #[v0_,.string a1] w0 fun e w'=>e= .returned (.string r)∧St no w0 w' []:=by
 obtain⟨⟨g1,g2⟩,E⟩:=ar E
 cases E
 obtain⟨p,c,rfl,h2,h3,h4⟩:=h0
 by_cases hn:a0=[]
 ·subst hn
  refine(Tryz.strings_Join_none p c a1 w0).mono ?_
  rintro _ w' ⟨rfl,rfl⟩
  exact⟨rfl,.nil _ _⟩
 rcases h4 with⟨h,_⟩|⟨b,o,rfl,h5,h6⟩
 ·exact absurd h hn
 refine(Tryz.strings_Join b o c a0 a1 w0 (fun j x hx=>?_) ?_ g1 h2 g2).mono ?_
 ·obtain⟨cs,rfl,hr⟩:=h6 j x hx
  have:=hr 0 (.string x) rfl
  simpa [bm.str,Kd.of] using this
 ·exact h5.1
 rintro _ w' ⟨rfl,hb⟩
 exact⟨rfl,xE hb⟩
end Go.Proofs.YtmhkpafkadijgaaGreatDoor.Gw
