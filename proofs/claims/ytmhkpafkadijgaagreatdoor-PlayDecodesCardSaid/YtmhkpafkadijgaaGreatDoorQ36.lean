/- A part of the proof of Rows.PlayDecodesCardSaid; the conditions are that card's own. -/
import Derived.Test.YtmhkpafkadijgaaGreatDoorQ35
import Derived.Test.YtmhkpafkadijgaaGreatDoorQ31
import Derived.Lib.TrimUEq
set_option linter.all false
set_option maxRecDepth 100000
namespace Go.Proofs.YtmhkpafkadijgaaGreatDoor.Gw
open Go.IntKind renaming wrap→I,i64→U
open Go Go.RowKit GF
theorem Yz(y:GF→GF)(P xs:List GF):gU y (aW P) xs=gU y P xs:=by
 unfold gU;congr 1;refine Ov fun x _=>by rw[fG]
theorem Uk{xs:List GF}{K:Nat}(hx:xs.length≤40)(hKn:K≤xs.length):I U (Int.tdiv (I U (((bi xs).length:Int)-(K:Int))) 2)=(((xs.length-K)/2:Nat):Int):=by
 rw[YO,ca (x:=(xs.length:Int)-(K:Int)) a_ a_,show(xs.length:Int)-(K:Int)=((xs.length-K:Nat):Int) by omega,EP a_,ca a_ a_];omega
theorem Vj{K t:Nat}(y:GF→GF){xs:List GF}{Z:List (List GF)}(hx:xs.length≤40)(hKn:K≤xs.length)(ht:t=(xs.length-K)/2)(hZ:∀z∈Z,z.length=K+t+(t+1))(hZl:Z.length≤100):∀(d i k:Nat),i+d=Z.length→9000+d<k→
 ∃p ok,RJ.l0 k (bi xs) (bi (xs.map y)) (K:Int) (Z.map bi) (i:Int)=some (bi p,ok)∧p.length≤250∧∀P:List GF,P.length=K→gU y P xs≤t→0<d→(∀x,pv ((bE Z i).take (K+t)) x=pv P x*pv ((bE Z i).drop (K+t)) x)→aW ((bE Z i).drop (K+t))≠ []→ok=true∧p=aW P
 |d,i,0,_,h=>a_
 |0,i,k+1,hi,hk=>⟨[],false,by rw[RJ.l0,aQ aaV];rfl,j_,fun P _ _ h=>a_⟩
 |d+1,i,k+1,hi,hk=>by
  have hiZ:i<Z.length:=a_
  have hz:(bE Z i).length=K+t+(t+1):=hZ _ (by simp[bE,bF,hiZ])
  obtain⟨p,ok,h1,h2,h3⟩:=XS (k:=k) (p:=(bE Z i).take (K+t)) (d:=(bE Z i).drop (K+t)) IK NI a_
  obtain⟨p',ok',g1,g2,g3⟩:=Vj y hx hKn ht hZ hZl d (i+1) k a_ a_
  have wa:I U ((K:Int)+(t:Int))=((K+t:Nat):Int):=by rw[ca a_ a_];omega
  have hstep:RJ.l0 (k+1) (bi xs) (bi (xs.map y)) (K:Int) (Z.map bi) (i:Int)=bif ok then(bif decide (((aW p).length:Int)-1<(K:Int))then(bif decide (((gU y p xs:Nat):Int)≤(t:Int))then some (bi p,true)else some (bi p',ok'))else some (bi p',ok'))else some (bi p',ok'):=by
   rw[RJ.l0,Uk hx hKn,←ht,wa,bh aaV,aF aaV,Sy hiZ,aF g_,aF aaV,aF g_,EU,n_,Γ,lh,nu,h1,aJ,bT a_,g1]
   simp only[]
   rw[CO a_ a_,aJ,X6 y a_ a_ a_,aJ]
  have hP:∀P:List GF,P.length=K→gU y P xs≤t→(∀x,pv ((bE Z i).take (K+t)) x=pv P x*pv ((bE Z i).drop (K+t)) x)→aW ((bE Z i).drop (K+t))≠ []→ok=true∧p=aW P∧((aW p).length:Int)-1<(K:Int)∧((gU y p xs:Nat):Int)≤(t:Int):=fun P q1 q2 q3 q4=>by
   obtain⟨e1,e2⟩:=h3 P a_ q4 q3
   have hle:=gP P
   refine⟨e1,e2,?_,?_⟩
   ·rw[e2,wH];omega
   rw[e2,Yz];omega
  cases ok with
  |false=>exact⟨p',ok',by rw[hstep];rfl,g2,fun P q1 q2 _ q3 q4=>absurd (hP P q1 q2 q3 q4).1 j_⟩
  |true=>
   by_cases c1:((aW p).length:Int)-1<(K:Int)
   ·by_cases c2:((gU y p xs:Nat):Int)≤(t:Int)
    ·exact⟨p,true,by rw[hstep,EK,bh c1,bh c2],h2,fun P q1 q2 _ q3 q4=>⟨rfl,(hP P q1 q2 q3 q4).2.1⟩⟩
    exact⟨p',ok',by rw[hstep,EK,bh c1,aQ c2],g2,fun P q1 q2 _ q3 q4=>absurd (hP P q1 q2 q3 q4).2.2.2 c2⟩
   exact⟨p',ok',by rw[hstep,EK,aQ c1],g2,fun P q1 q2 _ q3 q4=>absurd (hP P q1 q2 q3 q4).2.2.1 c1⟩
theorem XT{K k:Nat}{y:GF→GF}{xs:List GF}(hn:xs.Nodup)(hx:xs.length≤40)(hK:1≤K)(hKn:K≤xs.length)(hk:30000<k):∃p ok,RJ.f k (bi xs) (bi (xs.map y)) (K:Int)=some (bi p,ok)∧p.length≤250∧
 ∀P:List GF,P.length=K→gU y P xs≤(xs.length-K)/2→ok=true∧p=aW P:=by
 obtain⟨t,ht⟩:∃t,t=(xs.length-K)/2:=⟨_,rfl⟩
 have hm:=Po K t y xs
 have hb1:xs.length*(xs.length+3)≤40*43:=Φ hx a_
 have hb2:xs.length*(K+2*t+6)≤40*50:=Φ hx a_
 have hb3:(K+t+(t+1))*(2*xs.length+3)≤41*83:=Φ a_ a_
 have hb4:(K+t+(t+1))*(xs.length+3)≤41*43:=Φ a_ a_
 have hmay:Rt.f k (bi xs) (bi (xs.map y)) (K:Int)=some true:=by
  unfold Rt.f
  rw[aQ a_,aQ g_,cH (by rw[YO,YO,x_]),aQ g_]
  exact Vn hn a_ xs.length 0 k a_ a_
 have heq:gB.f k (bi xs) (bi (xs.map y)) (K:Int) (t:Int)=some ((xs.length:Int),((K+t+(t+1):Nat):Int),bi (iv K t y xs).flatten):=Vf y hx a_ a_ xs.length 0 k a_ a_
 obtain⟨Z,e1,e0,e2,e3⟩:=X0 (k:=k) a_ a_ hm a_
 obtain⟨p,ok,p1,p2,p3⟩:=Vj (t:=t) y hx hKn ht (fun z hz=>(e2 z hz).1) a_ Z.length 0 k a_ a_
 refine⟨p,ok,?_,p2,fun P h1 h2=>?_⟩
 ·unfold RJ.f
  rw[hmay,aJ,Uk hx hKn,←ht]
  simp only[ν,U_]
  rw[heq,aJ]
  simp only[]
  rw[e1,aJ]
  exact p1
 rw[←ht]at h2
 have hne:=e3 (PH hK h1 h2)
 have hpos:=Bz.2 hne
 obtain⟨z1,z2,z3⟩:=e2 (bE Z 0) (by simp[bE,bF,hpos])
 obtain⟨g1,g2⟩:=PI hn a_ h1 h2 a_ z1 z2 z3
 exact p3 P h1 h2 hpos g1 g2
def VX(N K B:Nat)(r:List GF)(e:List Nat)(res:List Int×Bool):Prop:=(res.2=false∧∀W,¬RL N K B r W e)∨∃W,RL N K B r W e∧res=(bi W,true)
theorem Vp{N K B:Nat}{r:List GF}{e:List Nat}{y:GF→GF}(hN:N≤40)(hr:r.length=N)(he:e.length<900)(hy:∀i<N,y (pow al i)=r.getD i 0*inv (wv al N B i)):∀(d i k:Nat),i+d=N→2000<k→
 Rp.l0 (k+d+1) ((N:Int),(K:Int),(B:Int)) (bi r) (ints e) (bi (bl al N),bi (jy N B)) (bi ((gA i e).map (pow al))) (bi (((gA i e).map (pow al)).map y)) (i:Int)=Rp.j0 k ((N:Int),(K:Int),(B:Int)) (bi r) (ints e) (bi ((gA N e).map (pow al))) (bi (((gA N e).map (pow al)).map y))
 |0,i,k,hi,hk=>by
  obtain rfl:i=N:=a_
  rw[Rp.l0,aQ iU]
 |d+1,i,k,hi,hk=>by
  have hiN:i<N:=a_
  have hle:(gA i e).length≤i:=by
   have:=xJ (fun i=>!decide (i∈e)) (List.range i)
   rw[yC]at this;exact this
  have ih:=Vp (K:=K) hN hr he hy d (i+1) k a_ hk
  rw[Uw]at ih
  obtain⟨z,p1,p2,p3⟩:=To (L:=e) a_ i (k:=k+d+1) a_
  rw[show k+(d+1)+1=(k+d+1)+1 by omega,Rp.l0]
  simp only[]
  rw[bh a_,p1,aJ,bT a_]
  by_cases h:i∈e
  ·rw[M_ h,fQ]at ih
   rw[aQ (fun hz=>p2.1 hz h)];exact ih
  rw[I_ h]at ih
  rw[bh (p2.2 h),aF Ls,aF OB,aF (by rw[YO,hr];omega),aF (by rw[YO,qq];omega),cI,cI,QL hiN,Tn _ (D3 qA N B i) a_,aJ,aF Nv,cI,tZ al hiN,←hy i hiN,←ih]
  congr 1<;>simp[bi]
theorem XY{N K B:Nat}{r:List GF}{e:List Nat}(J:Ask N K B r e){k:Nat}(hk:60000<k):∃res,Rp.f k ((N:Int),(K:Int),(B:Int)) (bi r) (ints e)=some res∧VX N K B r e res:=by
 obtain⟨c1,c2,c3,c4⟩:=id J.c
 have h4:=J.e4;have h22:=J.N22
 have wa:I U ((N:Int)-(K:Int))=((N-K:Nat):Int):=by rw[ca a_ a_];omega
 have hstart:Rp.f k ((N:Int),(K:Int),(B:Int)) (bi r) (ints e)=bif decide (((N-K:Nat):Int)<(e.length:Int))then some ([],false)else Rp.l0 k ((N:Int),(K:Int),(B:Int)) (bi r) (ints e) (bi (bl al N),bi (jy N B)) [] [] 0:=by
  unfold Rp.f
  simp only[]
  rw[xv J.c,aJ,cH rfl,cH (by rw[YO,J.r]),TT J.c a_ J.lt a_,M_ J.nd,aJ,cH rfl,wa,iQ,Vu J.c a_ a_,aJ]
 by_cases hf:e.length≤N-K
 ·have hlen:=TD J.nd J.lt
  have hnd:=Cv (N:=N) a_
  obtain⟨y,hy⟩:=AR hnd fun i=>r.getD i 0*inv (wv al N B i)
  have hy:∀i<N,y (pow al i)=r.getD i 0*inv (wv al N B i):=fun i hi=>by
   have:=hy i (by rw[dI];exact hi)
   rw[tZ al hi]at this;exact this
  have hxn:((gA N e).map (pow al)).Nodup:=SY qA (Sk a_) (List.nodup_range.filter _) fun i hi=>(Sn.1 hi).1
  have hun:∀W P,RL N K B r W e→(∀i<N,pv P (pow al i)=W.getD i 0*inv (wv al N B i))→gU y P ((gA N e).map (pow al))=(wr N r W e).length:=fun W P hW hP=>by
   unfold gU
   rw[List.filter_map,x_,VQ]
   congr 1
   refine Ov fun i hi=>?_
   have hi:=(Sn.1 hi).1
   show(!decide (pv P (pow al i)=y (pow al i)))=_
   rw[hP i hi,hy i hi]
   congr 1
   refine PO.2 ⟨fun h=>?_,fun h=>by rw[h]⟩
   rw[mul_comm,mul_comm (r.getD i 0)]at h
   exact(mul_left (tu (D3 qA N B i)) h).symm
  obtain⟨k2,hk2⟩:∃k',k=k'+N+1:=⟨k-N-1,a_⟩
  have hxl:((gA N e).map (pow al)).length=N-e.length:=Fe
  obtain⟨p,ok,f1,f2,f3⟩:=XT (K:=K) (y:=y) (k:=k2) hxn a_ c1 a_ a_
  have hnear:∀W,RL N K B r W e→ok=true∧(List.range N).map (fun i=>wv al N B i*pv p (pow al i))=W:=fun W hW=>by
   obtain⟨P,hP,hv⟩:=QG (B:=B) (K:=K) qA hW.len (show K≤N by omega) hnd fun j hj=>hW.root j hj
   have hf:=hW.fits
   obtain⟨g1,g2⟩:=f3 P hP (by rw[hun W P hW hv,hxl];omega)
   refine⟨g1,?_⟩
   apply Fq (by simp[hW.len])
   intro i h1 h2
   have hi:i<N:=LX
   rw[Fj,FN,g2,fG,Qr qA hv i hi,dG (by rw[hW.len];exact hi)]
  have hl0:=Vp (K:=K) (e:=e) a_ J.r a_ hy N 0 k2 a_ a_
  rw[show gA 0 e=[] from rfl,rW,rW,Tu]at hl0
  have hdo:Rp.f k ((N:Int),(K:Int),(B:Int)) (bi r) (ints e)=some (bif ok then(bi ((List.range N).map fun i=>wv al N B i*pv p (pow al i)),R0 N K B r ((List.range N).map fun i=>wv al N B i*pv p (pow al i)) e)else([],false)):=by
   rw[hstart,aQ a_,hk2,show(0:Int)=((0:Nat):Int) from rfl]
   refine ZI hl0 ?_
   unfold Rp.j0
   simp only[]
   rw[f1,aJ]
   cases ok with
   |false=>rfl
   |true=>
    simp only[ν,U_]
    rw[X3 J.c a_ a_ a_,aJ,XH J.c J.r j_ hf J.nd J.lt a_,aJ];rfl
  refine⟨_,hdo,?_⟩
  cases ok with
  |false=>exact .inl ⟨rfl,fun W hW=>absurd (hnear W hW).1 j_⟩
  |true=>
   cases ho:R0 N K B r ((List.range N).map fun i=>wv al N B i*pv p (pow al i)) e with
   |false=>
    refine .inl ⟨rfl,fun W hW=>?_⟩
    rw[(hnear W hW).2,(SJ hW.len).2 hW]at ho
    cases ho
   |true=>exact .inr ⟨_,(SJ j_).1 ho,rfl⟩
 exact⟨([],false),by rw[hstart,bh a_],.inl ⟨rfl,fun W hW=>hf (by have:=hW.fits;omega)⟩⟩
theorem XX{N K B:Nat}{r:List GF}{e:List Nat}(hc:Cd N K B)(hr:r.length=N)(he:e.length<500)(hb:∀n∈e,n<N)(hn:¬e.Nodup){k:Nat}(hk:2000<k):Rp.f k ((N:Int),(K:Int),(B:Int)) (bi r) (ints e)=some ([],false):=by
 unfold Rp.f
 simp only[]
 rw[xv hc,aJ,cH rfl,cH N8,TT hc he hb a_,I_ hn,aJ];rfl
end Go.Proofs.YtmhkpafkadijgaaGreatDoor.Gw
namespace Go.Proofs.YtmhkpafkadijgaaGreatDoor.Gw
open Go.IntKind renaming wrap→I,i64→U
open Go GF
def tx(l:List UInt8):ByteArray:=⟨⟨l⟩⟩
theorem cK(l:List UInt8):(tx l).size=l.length:=rfl
theorem gF(a b:List UInt8):cat (tx a) (tx b)=tx (a++b):=rfl
theorem sc{a b:List UInt8}:tx a=tx b↔a=b:=⟨fun h=>by injection h with h;injection h,fun h=>by rw[h]⟩
def hd(n:Nat):UInt8:=if n<10 then UInt8.ofNat (48+n)else UInt8.ofNat (87+n)
def dH(p:List GF):List UInt8:=p.flatMap fun a=> [hd (a.1/16),hd (a.1%16)]
def mC(p:List GF):ByteArray:=if p=[]then tx [45]else tx (dH p)
theorem tt(a:GF)(p:List GF):dH (a::p)=hd (a.1/16)::hd (a.1%16)::dH p:=rfl
theorem AP(p q:List GF):dH (p++q)=dH p++dH q:=by simp[dH]
theorem kS:∀p:List GF,(dH p).length=2*p.length
 | []=>rfl
 |a::p=>by rw[tt];simp[kS p];omega
theorem Ae(k:Nat):∀d:Nat,d<16→nh.f (k+1) (d:Int) 16=some (tx [hd d])
 |0,_=>rfl
 |1,_=>rfl
 |2,_=>rfl
 |3,_=>rfl
 |4,_=>rfl
 |5,_=>rfl
 |6,_=>rfl
 |7,_=>rfl
 |8,_=>rfl
 |9,_=>rfl
 |10,_=>rfl
 |11,_=>rfl
 |12,_=>rfl
 |13,_=>rfl
 |14,_=>rfl
 |15,_=>rfl
 |_+16,h=>a_
theorem Dw{n:Nat}(h:n<256):IntKind.u8.wrap (Int.tdiv (n:Int) 16)=((n/16:Nat):Int):=by
 have:Int.tdiv (n:Int) 16=((n/16:Nat):Int):=by rw[EP a_];omega
 rw[this,lY a_ a_]
theorem DD(n:Nat):Int.tmod (n:Int) 16=((n%16:Nat):Int):=by rw[EO a_];omega
theorem Ce(p:List GF)(hp:p.length<1000):∀(d i k:Nat),i+d=p.length→d+10<k→eM.l0 k (bi p) (tx (dH (p.take i))) (i:Int)=some (tx (dH p))
 |d,i,0,_,h=>a_
 |0,i,k+1,hd',hk=>by
  rw[eM.l0,aQ g_,D_ a_]
 |d+1,i,k+1,hd',hk=>by
  have hi:i<p.length:=a_
  obtain⟨k',rfl⟩:∃m,k=m+1:=⟨k-1,a_⟩
  have hb:=(p.getD i 0).2
  have hl:=kS (p.take i)
  have hl2:(p.take i).length=i:=l_
  rw[eM.l0,bh g_,aF g_,cI,Dw hb,iB a_,Ae k' _ a_,aJ,aF (by rw[cK,cK,hl,hl2];simp;omega),DD,iB a_,Ae k' _ a_,aJ,gF,aF aax,gF,bT a_]
  have e:dH (p.take i)++[hd ((p.getD i 0).1/16)]++[hd ((p.getD i 0).1%16)]=dH (p.take (i+1)):=by
   rw[y_ hi,dG hi,AP,DX];rfl
  rw[e]
  exact Ce p hp d (i+1) (k'+1) a_ a_
theorem wX{p:List GF}{k:Nat}(hp:p.length<1000)(hk:2000<k):eM.f k (bi p)=some (mC p):=by
 unfold eM.f mC
 cases p with
 |nil=>rw[bh EJ,M_ rfl];rfl
 |cons a p=>
  rw[aQ EN,I_ j_]
  exact Ce (a::p) hp (a::p).length 0 k a_ a_
theorem zU{n:Nat}(h:n<16):ext jA (n:Int) ((n:Int)+1)=tx [hd n]:=by
 have hc:(List.range 16).all (fun n=>decide ((ext jA (n:Int) ((n:Int)+1)).data.toList=[hd n]))=true:=R_
 have:=aT (Y_.1 hc n (φ.2 h))
 apply ZR
 apply EZ
 exact this
theorem CZ(p:List GF)(hp:p.length<1000):∀(d i k:Nat),i+d=p.length→d+10<k→fh.l0 k (bi p) (tx (dH (p.take i))) (i:Int)=some (tx (dH p))
 |d,i,0,_,h=>a_
 |0,i,k+1,hd',hk=>by
  rw[fh.l0,aQ g_,D_ a_]
 |d+1,i,k+1,hd',hk=>by
  have hi:i<p.length:=a_
  have hb:=(p.getD i 0).2
  have hl:=kS (p.take i)
  have hl2:(p.take i).length=i:=l_
  have hsz:jA.size=16:=rfl
  have e1:IntKind.u8.wrap ((((p.getD i 0).1/16:Nat):Int)+1)=(((p.getD i 0).1/16:Nat):Int)+1:=lY a_ a_
  have e2:IntKind.u8.wrap ((((p.getD i 0).1%16:Nat):Int)+1)=(((p.getD i 0).1%16:Nat):Int)+1:=lY a_ a_
  rw[fh.l0,bh g_]
  simp only[cI,Dw hb,DD,e1,e2,zU (show(p.getD i 0).1/16<16 by omega),zU (show(p.getD i 0).1%16<16 by omega),gF]
  rw[aF g_,aF g_,aF (by rw[hsz];omega),aF (by rw[cK,cK,hl,hl2];simp;omega),aF g_,aF g_,aF (by rw[hsz];omega),aF aax,bT a_]
  have e:dH (p.take i)++[hd ((p.getD i 0).1/16)]++[hd ((p.getD i 0).1%16)]=dH (p.take (i+1)):=by
   rw[y_ hi,dG hi,AP,DX];rfl
  rw[e]
  exact CZ p hp d (i+1) k a_ a_
theorem xt{p:List GF}{k:Nat}(hp:p.length<1000)(hk:2000<k):fh.f k (bi p)=some (mC p):=by
 unfold fh.f mC
 cases p with
 |nil=>rw[bh EJ,M_ rfl];rfl
 |cons a p=>
  rw[aQ EN,I_ j_]
  exact CZ (a::p) hp (a::p).length 0 k a_ a_
theorem y1{l:List UInt8}{j:Nat}{b:UInt8}(h:l[j]? =some b)(hb:b.toNat<128):Utf8.decode (tx l) j=(b.toNat,1):=by
 rw[Lib.decode_N]
 have:(tx l).data.toList.getD j 0=b:=by show l.getD j 0=b;rw[bF,h];rfl
 rw[this]
 exact Lib.decodeN_ascii _ _ _ _ _ hb
theorem tq{n:Nat}(h:n<16):(hd n).toNat<128∧jU.f (((hd n).toNat:Nat):Int)=some ((n:Int),true)∧(hd n==10)=false∧(hd n==32)=false∧(hd n==45)=false:=by
 have hc:(List.range 16).all (fun n=>decide ((hd n).toNat<128∧jU.f (((hd n).toNat:Nat):Int)=some ((n:Int),true)∧(hd n==10)=false∧(hd n==32)=false∧(hd n==45)=false))=true:=R_
 exact aT (Y_.1 hc n (φ.2 h))
theorem M6{n:Nat}(h:n<256):bits .or .u8 (IntKind.u8.wrap (0*2^min (4:Int).toNat 8)) ((n/16:Nat):Int)=((n/16:Nat):Int)∧bits .or .u8 (IntKind.u8.wrap (((n/16:Nat):Int)*2^min (4:Int).toNat 8)) ((n%16:Nat):Int)=(n:Int):=by
 have hc:(List.range 256).all (fun n=>decide (bits .or .u8 (IntKind.u8.wrap (0*2^min (4:Int).toNat 8)) ((n/16:Nat):Int)=((n/16:Nat):Int)∧bits .or .u8 (IntKind.u8.wrap (((n/16:Nat):Int)*2^min (4:Int).toNat 8)) ((n%16:Nat):Int)=(n:Int)))=true:=R_
 exact aT (Y_.1 hc n (φ.2 h))
theorem AQ:∀(p:List GF)(j:Nat),j<p.length→(dH p)[2*j]? =some (hd ((p.getD j 0).1/16))∧(dH p)[2*j+1]? =some (hd ((p.getD j 0).1%16))
 | [],j,h=>aS
 |a::p,0,_=>⟨rfl,rfl⟩
 |a::p,j+1,h=>by
  obtain⟨h1,h2⟩:=AQ p j sW
  rw[tt,show 2*(j+1)=2*j+1+1 by omega,LW,LW,LW,LW,bY]
  exact⟨h1,h2⟩
theorem DK(p:List GF)(hp:p.length<1000):∀(d j k:Nat),j+d=p.length→2*d<k→fx.l0 k (tx (dH p)) (bi (p.take j++List.replicate d 0)) (2*j)=some (bi p,true)
 |d,j,0,_,h=>a_
 |0,j,k+1,hd',hk=>by
  rw[fx.l0,aQ (by rw[cK,kS];omega),D_ a_];simp
 |d+1,j,k+1,hd',hk=>by
  obtain⟨k,rfl⟩:∃m,k=m+1:=⟨k-1,a_⟩
  have hj:j<p.length:=a_
  have hb:=(p.getD j 0).2
  obtain⟨g1,g2⟩:=AQ p j hj
  obtain⟨a1,a2,_⟩:=tq (n:=(p.getD j 0).1/16) a_
  obtain⟨b1,b2,_⟩:=tq (n:=(p.getD j 0).1%16) a_
  obtain⟨o1,o2⟩:=M6 hb
  have d1:=y1 g1 a1
  have d2:=y1 g2 b1
  have hjl:(p.take j).length=j:=l_
  have e1:I U (Int.tdiv ((2*j:Nat):Int) 2)=(j:Int):=by
   have:Int.tdiv ((2*j:Nat):Int) 2=(j:Int):=by rw[EP a_];omega
   rw[this,iB a_]
  have e2:I U (Int.tdiv ((2*j+1:Nat):Int) 2)=(j:Int):=by
   have:Int.tdiv ((2*j+1:Nat):Int) 2=(j:Int):=by rw[EP a_];omega
   rw[this,iB a_]
  have hlen:(p.take j++List.replicate (d+1) (0:GF)).length=p.length:=l_
  have hz:(p.take j++List.replicate (d+1) (0:GF)).getD j 0=0:=by
   simp only[bF]
   rw[ε a_,hjl,Ff];rfl
  rw[fx.l0,bh (by rw[cK,kS];omega)]
  unfold ml o0
  rw[d1]
  simp only
  rw[a2,aJ]
  simp only[ν,U_]
  rw[e1,aF g_,aF g_,cI,hz,show(((0:GF).1:Nat):Int)=0 from rfl,o1,n_]
  have hset:(bi (p.take j++List.replicate (d+1) 0)).set j (((p.getD j 0).1/16:Nat):Int)=bi (p.take j++GF.of ((p.getD j 0).1/16) a_::List.replicate d 0):=by
   have:=gY (p.take j++List.replicate (d+1) 0) j (GF.of ((p.getD j 0).1/16) a_)
   refine this.trans ?_
   rw[DZ _ _ a_,hjl,Ff,FU,FM]
  rw[hset]
  have hlen2:(p.take j++GF.of ((p.getD j 0).1/16) a_::List.replicate d 0).length=p.length:=l_
  have hz2:(p.take j++GF.of ((p.getD j 0).1/16) a_::List.replicate d 0).getD j 0=GF.of ((p.getD j 0).1/16) a_:=by
   simp only[bF]
   rw[ε a_,hjl,Ff];rfl
  rw[fx.l0,bh (by rw[cK,kS];omega)]
  unfold ml o0
  rw[d2]
  simp only
  rw[b2,aJ]
  simp only[ν,U_]
  rw[e2,aF g_,aF g_,cI,hz2,show(((GF.of ((p.getD j 0).1/16) a_).1:Nat):Int)=(((p.getD j 0).1/16:Nat):Int) from rfl,o2,n_,gY]
  have hset2:(p.take j++GF.of ((p.getD j 0).1/16) a_::List.replicate d 0).set j (p.getD j 0)=p.take (j+1)++List.replicate d 0:=by
   rw[DZ _ _ a_,hjl,Ff,FM,y_ hj,dG hj,DX];rfl
  rw[hset2,show 2*j+1+1=2*(j+1) by omega]
  exact DK p hp d (j+1) k a_ a_
theorem DL{p:List GF}{k:Nat}(hp:p.length<1000)(hk:3000<k):fx.f k (mC p)=some (bi p,true):=by
 unfold fx.f mC
 cases p with
 |nil=>rw[M_ rfl,bh EJ];rfl
 |cons a p=>
  have h1:¬tx (dH (a::p))=mc:=fun e=>by
   have e':dH (a::p)=[45]:=sc.1 e
   have:=L_ List.length e'
   rw[kS]at this
   simp at this;omega
  have h2:¬tx (dH (a::p))=dp:=fun e=>by
   have e':dH (a::p)=[]:=sc.1 e
   rw[tt]at e';cases e'
  have e1:Int.tdiv ((tx (dH (a::p))).size:Int) 2=((a::p).length:Int):=by rw[cK,kS,EP a_];omega
  rw[I_ j_,aQ h1,aQ h2,aQ (by rw[cK,kS,EO a_];omega),e1,iB a_,aF a_,n_,gZ]
  exact DK (a::p) hp (a::p).length 0 k a_ a_
theorem fw{n:Nat}(h:n<256):(num (n:Int)).length≤4∧num (n:Int)≠ []∧ni.f (tx (num (n:Int))) so=some (tx [])∧strconv_Atoi.f (tx (num (n:Int)))=some (n:Int)∧(num (n:Int)).all (fun b=>!(b==10)&&!(b==32))=true:=by
 have hc:(List.range 256).all (fun n=>decide ((num (n:Int)).length≤4∧num (n:Int)≠ []∧(ni.f (tx (num (n:Int))) so).map (·.data.toList)=some []∧strconv_Atoi.f (tx (num (n:Int)))=some (n:Int)∧(num (n:Int)).all (fun b=>!(b==10)&&!(b==32))=true))=true:=R_
 obtain⟨h1,h2,h3,h4,h5⟩:=aT (Y_.1 hc n (φ.2 h))
 refine⟨h1,h2,?_,h4,h5⟩
 cases hs:ni.f (tx (num (n:Int))) so with
 |none=>rw[hs]at h3;cases h3
 |some b=>
  rw[hs]at h3
  simp only[NS,Ll]at h3
  congr 1
  apply ZR
  apply EZ
  exact h3
theorem nR{n:Nat}(h:n<1000):strconv_Itoa.f (n:Int)=some (tx (num (n:Int))):=by
 unfold strconv_Itoa.f
 rw[aF a_];rfl
def kx(l:List Nat):List ByteArray:=l.map fun n:Nat=>tx (num (n:Int))
theorem BO(l:List Nat)(hl:l.length<100)(hb:∀n∈l,n<256):∀(d i k:Nat),i+d=l.length→d<k→
 fR.l0 k (kx l) ((l.take i).map fun n:Nat=>(n:Int)) (i:Int)=some (l.map (fun n:Nat=>(n:Int)),true)
 |d,i,0,_,h=>a_
 |0,i,k+1,hd',hk=>by
  rw[fR.l0,aQ aav,D_ a_]
 |d+1,i,k+1,hd',hk=>by
  have hi:i<l.length:=a_
  have hn:=hb l[i] (T_ hi)
  obtain⟨f1,f2,f3,f4,_⟩:=fw hn
  have ea:at_ ByteArray.empty (kx l) (i:Int)=tx (num (l[i]:Int)):=by
   rw[nt aav];simp[kx]
  have hs:(tx (num (l[i]:Int))).size≤4:=f1
  have hne:¬tx (num (l[i]:Int))=dp:=fun e=>f2 (sc.1 e)
  rw[fR.l0,bh aav,aF aav,ea,aQ hne,aQ a_,f3,aJ,cH EJ,f4,aJ,aF l_,bT a_]
  have e:(l.take i).map (fun n:Nat=>(n:Int))++[(l[i]:Int)]=(l.take (i+1)).map fun n:Nat=>(n:Int):=by
   rw[y_ hi,Fg];rfl
  rw[e]
  exact BO l hl hb d (i+1) k a_ a_
theorem wK{l:List Nat}{k:Nat}(hl:l.length<100)(hb:∀n∈l,n<256)(hk:100<k):fR.f k (kx l)=some (l.map (fun n:Nat=>(n:Int)),true):=BO l hl hb l.length 0 k a_ a_
theorem uB(c:UInt8):∀l:List UInt8,(∀b∈l,(b==c)=false)→dN c l=[l]
 | [],_=>rfl
 |b::l,h=>by
  rw[dN,h b H_,uB c l fun x hx=>h x (o_ _ hx)];rfl
theorem ng(c:UInt8)(r:List UInt8):∀l:List UInt8,(∀b∈l,(b==c)=false)→dN c (l++c::r)=l::dN c r
 | [],_=>by rw[ψ,dN];simp
 |b::l,h=>by
  rw[Bv,dN,h b H_,ng c r l fun x hx=>h x (o_ _ hx)];rfl
def qK(l:List UInt8):Bool:=l.all fun b=>!(b==10)&&!(b==32)
theorem nz{l:List UInt8}(h:qK l=true):∀b∈l,(b==10)=false:=fun b hb=>by
 have:=Y_.1 h b hb
 simp only[S_,Ox]at this
 exact this.1
theorem nA{l:List UInt8}(h:qK l=true):∀b∈l,(b==32)=false:=fun b hb=>by
 have:=Y_.1 h b hb
 simp only[S_,Ox]at this
 exact this.2
theorem y0:∀p:List GF,qK (dH p)=true
 | []=>rfl
 |a::p=>by
  have ha:=a.2
  obtain⟨_,_,a1,a2,_⟩:=tq (n:=a.1/16) a_
  obtain⟨_,_,b1,b2,_⟩:=tq (n:=a.1%16) a_
  have ih:=y0 p
  unfold qK at ih⊢
  rw[tt,PX,PX,a1,a2,b1,b2,ih];rfl
def cC(p:List GF):List UInt8:=if p=[]then [45]else dH p
theorem lF(p:List GF):mC p=tx (cC p):=by unfold mC cC;split<;>rfl
theorem sG(p:List GF):qK (cC p)=true:=by
 unfold cC;split
 ·rfl
 exact y0 p
theorem gL(p:List GF):(cC p).length≤2*p.length+1:=by
 unfold cC;split
 ·simp
 rw[kS];omega
theorem PJ{t:List UInt8}(h:t.length≤4294967280):strings_Split.f (tx t) du=some ((dN 10 t).map tx):=by
 unfold strings_Split.f
 show an (decide ((tx t).size≤4294967280)) _=_
 rw[aF (show(tx t).size≤4294967280 from h)];rfl
theorem r8{t:List UInt8}(h:t.length≤4294967280):strings_Split.f (tx t) bU=some ((dN 32 t).map tx):=by
 unfold strings_Split.f
 show an (decide ((tx t).size≤4294967280)) _=_
 rw[aF (show(tx t).size≤4294967280 from h)];rfl
end Go.Proofs.YtmhkpafkadijgaaGreatDoor.Gw
namespace Go.Proofs.YtmhkpafkadijgaaGreatDoor.Gw
open Go.IntKind renaming wrap→I,i64→U
open Go Go.RowKit GF
theorem S3{N K B d b e:Nat}(hd:P3 d)(hb:b≤3)(d0:Int):∃b',P3 b'∧dz.j0 ((N:Int),(K:Int),(B:Int)) (e:Int) (d0,(b:Int)) (d:Int)=some (((d:Int),(b':Int)),0):=by
 unfold dz.j0
 by_cases h:b=0
 ·subst h
  by_cases h1:64≤N
  ·refine⟨1,.inl rfl,?_⟩
   unfold rM.f;simp only;rw[bh EJ,aJ,bh a_];rfl
  by_cases h2:N<16
  ·refine⟨2,.inr (.inl rfl),?_⟩
   unfold rM.f rN.f;simp only;rw[bh EJ,aJ,aQ a_,aJ,bh a_];rfl
  refine⟨3,.inr (.inr rfl),?_⟩
  unfold rM.f rN.f;simp only;rw[bh EJ,aJ,aQ a_,aJ,aQ a_];rfl
 refine⟨b,by unfold P3;omega,?_⟩
 simp only
 rw[aQ a_]
theorem TN{d b:Nat}(hd:d≤3)(hb:b≤3):jS.f ((d:Int),(b:Int))=some 0:=by
 unfold jS.f
 simp only
 rw[aQ a_,aQ a_,aQ a_,aQ a_]
theorem Wi{N K B d b e:Nat}(hc:Cd N K B)(hd:d≤3)(hb:b≤3):∃d' b',P3 d'∧P3 b'∧dz.f ((N:Int),(K:Int),(B:Int)) (e:Int) ((d:Int),(b:Int))=some (((d':Int),(b':Int)),0):=by
 unfold dz.f
 simp only
 rw[jX hc,aJ,cH rfl,TN hd hb,aJ,cH rfl]
 by_cases h:d=0
 ·subst h
  unfold rJ.f rK.f rL.f dz.j1
  simp only
  rw[bh EJ,aJ]
  by_cases h1:N≤16
  ·obtain⟨b',h2,h3⟩:=S3 (N:=N) (K:=K) (B:=B) (d:=3) (e:=e) (.inr (.inr rfl)) hb ((0:Nat):Int)
   exact⟨3,b',.inr (.inr rfl),h2,by rw[bh a_];exact h3⟩
  rw[aQ a_,rZ hc,aJ,aJ]
  by_cases h4:I U (Int.tdiv (I U (((N-K:Nat):Int)+1)) 2)≤(e:Int)
  ·obtain⟨b',h2,h3⟩:=S3 (N:=N) (K:=K) (B:=B) (d:=2) (e:=e) (.inr (.inl rfl)) hb ((0:Nat):Int)
   exact⟨2,b',.inr (.inl rfl),h2,by rw[bh h4];exact h3⟩
  obtain⟨b',h2,h3⟩:=S3 (N:=N) (K:=K) (B:=B) (d:=1) (e:=e) (.inl rfl) hb ((0:Nat):Int)
  exact⟨1,b',.inl rfl,h2,by rw[aQ h4];exact h3⟩
 obtain⟨b',h2,h3⟩:=S3 (N:=N) (K:=K) (B:=B) (d:=d) (e:=e) (by unfold P3;omega) hb (d:Int)
 exact⟨d,b',by unfold P3;omega,h2,by rw[aQ a_];exact h3⟩
def VU(N K B:Nat)(r:List GF)(e:List Nat)(a:(List Int×List Int×List Int)×Int):Prop:=
 (¬e.Nodup∧a=(([],[],[]),13))∨(e.Nodup∧(∀W,¬RL N K B r W e)∧a=(([],[],[]),14))∨(e.Nodup∧∃W,RL N K B r W e∧a=((bi W,bi (W.drop (N-K)),ints (wr N r W [])),0))
def Su:Prop:=∀(N:Nat)(e:List Nat),2≤N→N≤22→e.Nodup→(∀i∈e,i<N)→e.length≤4→dQ ((gA N e).map (pow al))
theorem Wj(hS:Su){N K B d b k:Nat}{r:List GF}{e:List Nat}{n:List Int}(hc:Cd N K B)(hN:N≤22)(hr:r.length=N)(hb:∀i∈e,i<N)(he:e.length≤4)(hd:d≤3)(hb3:b≤3)(hk:500000<k):
 ∃a n',mi.f k n ((N:Int),(K:Int),(B:Int)) ((d:Int),(b:Int)) (bi r) (ints e)=some (a,n')∧VU N K B r e a:=by
 obtain⟨c1,c2,c3,c4⟩:=id hc
 have hcr:lu.f ((N:Int),(K:Int),(B:Int)) ((d:Int),(b:Int))=some 0:=by
  unfold lu.f
  simp only
  rw[jX hc,aJ,cH rfl,TN hd hb3];rfl
 by_cases hn:e.Nodup
 ·have J:Ask N K B r e:=⟨hc,hN,hr,hn,hb,he⟩
  obtain⟨d',b',q1,q2,q3⟩:=Wi (e:=e.length) hc hd hb3
  obtain⟨res,s1,s2⟩:=Wg J (hS N e a_ hN hn hb he) (k:=k) q1 hk
  have hstart:∃n',mi.f k n ((N:Int),(K:Int),(B:Int)) ((d:Int),(b:Int)) (bi r) (ints e)=bif !res.2 then some ((([],[],[]),14),n')else((iG.f k ((N:Int),(K:Int),(B:Int)) (bi r) res.1).bind fun x=>some (((x.1.1,x.1.2.1,x.1.2.2),x.2),n')):=by
   have hd4:(0:Int)≤(d':Int)∧(d':Int)<4:=by unfold P3 at q1;omega
   have hb4:(0:Int)≤(b':Int)∧(b':Int)<4:=by unfold P3 at q2;omega
   have hb5:(b':Int)=1∨(b':Int)=2∨(b':Int)=3:=by unfold P3 at q2;omega
   refine⟨n.set (cW (d':Int) (b':Int)).toNat (I U (at_ 0 n (cW (d':Int) (b':Int))+1)),?_⟩
   unfold mi.f
   simp only
   rw[hcr,aJ,cH rfl,cH N8,S5 hc a_ hb a_,M_ hn,aJ,cH rfl,iQ,q3,aJ]
   simp only
   rw[aF hd4,aF hb4,aF hb4,aF hb5,s1,aJ]
  obtain⟨n',hst⟩:=hstart
  rcases s2 with⟨rfl,h⟩|⟨W,h,rfl⟩
  ·exact⟨_,n',by rw[hst];rfl,.inr (.inl ⟨hn,h,rfl⟩)⟩
  refine⟨_,n',?_,.inr (.inr ⟨hn,W,h,rfl⟩)⟩
  rw[hst]
  simp only[ν,U_]
  rw[Wb hc hr h.len a_,aJ]
 refine⟨_,n,?_,.inl ⟨hn,rfl⟩⟩
 unfold mi.f
 simp only
 rw[hcr,aJ,cH rfl,cH N8,S5 hc a_ hb a_,I_ hn,aJ,kg f_]
theorem qR{a:ByteArray}{l:List ByteArray}:((a::l).take (a::l).length).drop ((1:Int).toNat)=l:=by
 rw[EU];rfl
theorem gu{a b:List UInt8}(h:a≠b):¬tx a=tx b:=fun e=>h (sc.1 e)
def iH(N K B:Nat):List UInt8:=[99,111,100,101]++32::(num (N:Int)++32::(num (K:Int)++32::num (B:Int)))
def mV(d b:Nat):List UInt8:=[112,105,99,107]++32::(num (d:Int)++32::num (b:Int))
def RH(e:List Nat):List UInt8:=e.flatMap fun i:Nat=>32::num (i:Int)
def iJ(r:List GF)(e:List Nat):List UInt8:=[100,101,99,111,100,101]++32::(cC r++RH e)
theorem VC(l:List UInt8)(hl:∀b∈l,(b==32)=false):∀e:List Nat,(∀i∈e,i<256)→dN 32 (l++RH e)=l::e.map fun i:Nat=>num (i:Int)
 | [],_=>by rw[show RH []=[] from rfl,fQ,uB 32 l hl];rfl
 |i::e,h=>by
  obtain⟨_,_,_,_,f5⟩:=fw (h i H_)
  rw[show RH (i::e)=32::(num (i:Int)++RH e) from rfl,ng 32 _ l hl,VC (num (i:Int)) (nA f5) e fun j hj=>h j (o_ _ hj)];rfl
theorem SZ:∀e:List Nat,(∀i∈e,i<256)→(RH e).length≤5*e.length
 | [],_=>by simp[RH]
 |i::e,h=>by
  obtain⟨f1,_⟩:=fw (h i H_)
  have:=SZ e fun j hj=>h j (o_ _ hj)
  rw[show RH (i::e)=32::(num (i:Int)++RH e) from rfl]
  simp only[r_,E_];omega
def Rz:List Nat→List UInt8
 | []=> [45]
 |i::e=>num (i:Int)++e.flatMap fun i:Nat=>44::num (i:Int)
theorem Ur(s:UInt8):∀(a:List UInt8)(l:List (List UInt8)),Lib.join (a::l) [s]=a++l.flatMap fun x=>s::x
 |a,[]=>by simp[Lib.join,List.intercalate]
 |a,b::l=>by
  have:=Ur s b l
  simp[Lib.join,List.intercalate]at this⊢
  exact this
theorem S9{e:List Nat}(h:∀i∈e,i<256):(Rz e).length≤5*e.length+4:=by
 cases e with
 |nil=>simp[Rz]
 |cons i e=>
  obtain⟨f1,_⟩:=fw (h i H_)
  have h2:∀e:List Nat,(∀i∈e,i<256)→(e.flatMap fun i:Nat=>44::num (i:Int)).length≤5*e.length:=fun e=>by
   induction e with
   |nil=>intro _;simp
   |cons j e ih=>
    intro hj
    obtain⟨g1,_⟩:=fw (hj j H_)
    have:=ih fun x hx=>hj x (o_ _ hx)
    rw[KT]
    simp only[r_,E_];omega
  have:=h2 e fun x hx=>h x (o_ _ hx)
  rw[Rz]
  simp only[r_,E_];omega
theorem Ux{e:List Nat}(hb:∀i∈e,i<256)(he:e.length≤300)(hne:e≠ []):∀(d i k:Nat),i+d=e.length→d<k→bM.l0 k (ints e) CK ((e.take i).map fun i:Nat=>tx (num (i:Int))) (i:Int)=some (tx (Rz e))
 |d,i,0,_,h=>a_
 |0,i,k+1,hi,hk=>by
  rw[bM.l0,aQ G_,D_ a_]
  unfold bM.j0 strings_Join.f
  obtain⟨a,t,rfl⟩:∃a t,e=a::t:=by
   cases e with
   |nil=>exact absurd rfl hne
   |cons a t=>exact⟨a,t,rfl⟩
  have e1:((a::t).map fun i:Nat=>tx (num (i:Int))).map (·.data.toList)=num (a:Int)::t.map fun i:Nat=>num (i:Int):=by simp[tx]
  have hl:=S9 hb
  have e2:Lib.join (num (a:Int)::t.map fun i:Nat=>num (i:Int)) [44]=Rz (a::t):=by
   rw[Ur,Rz]
   congr 1
   rw[List.flatMap_map]
  rw[e1,show CK.data.toList=[44] from rfl,e2,aF (by simp only[r_,x_]at hl he⊢;omega)];rfl
 |d+1,i,k+1,hi,hk=>by
  have hie:i<e.length:=a_
  have hx:=hb e[i] (T_ hie)
  rw[bM.l0,bh G_,aF G_,ints_at hie,bF,C_ hie,Ld,nR a_,aJ,aF l_,bT a_,←Ux hb he hne d (i+1) k a_ a_]
  congr 1
  rw[y_ hie,Fg];rfl
theorem Xa{e:List Nat}{k:Nat}(hb:∀i∈e,i<256)(he:e.length≤300)(hk:400<k):bM.f k (ints e) CK=some (tx (Rz e)):=by
 unfold bM.f
 cases e with
 |nil=>rfl
 |cons a t=>
  rw[aQ (by rw[iQ];simp;omega)]
  exact Ux hb he j_ (a::t).length 0 k a_ a_
def Told(N K B:Nat)(r:List GF)(e:List Nat)(t:List UInt8):Prop:=
 (¬e.Nodup∧t=[101,114,114,111,114,32,49,51])∨(e.Nodup∧(∀W,¬RL N K B r W e)∧t=[101,114,114,111,114,32,49,52])∨(e.Nodup∧∃W,RL N K B r W e∧t=cC (W.drop (N-K))++32::(cC W++32::Rz (wr N r W [])))
theorem T7(N:Nat)(r W:List GF)(e:List Nat):(wr N r W e).length≤N:=by
 have:=xJ (fun i=>!decide (r.getD i 0=W.getD i 0)&&!decide (i∈e)) (List.range N)
 rw[yC]at this;exact this
theorem Yy{N K B:Nat}{r:List GF}{e:List Nat}{s t:List UInt8}(hc:Cd N K B)(hN:N≤22)(hs:Told N K B r e s)(ht:Told N K B r e t):s=t:=by
 rcases hs with⟨a,rfl⟩|⟨a,b,rfl⟩|⟨a,W,b,rfl⟩<;>rcases ht with⟨a',rfl⟩|⟨a',b',rfl⟩|⟨a',V,b',rfl⟩
 ·rfl
 ·exact absurd a' a
 ·exact absurd a' a
 ·exact absurd a a'
 ·rfl
 ·exact absurd b' (b V)
 ·exact absurd a a'
 ·exact absurd b (b' W)
 rw[Xh qA (Sk (N:=N) a_) b b']
theorem oc{a l:List UInt8}(ha:∀b∈a,(b==10)=false)(hl:∀b∈l,(b==10)=false):∀b∈a++32::l,(b==10)=false:=by
 intro b hb
 rcases dO.1 hb with h|h
 ·exact ha b h
 rcases X_.1 h with rfl|h
 ·rfl
 exact hl b h
theorem UM:∀e:List Nat,(∀i∈e,i<256)→∀b∈RH e,(b==10)=false
 | [],_=>by simp[RH]
 |i::e,h=>by
  obtain⟨_,_,_,_,f5⟩:=fw (h i H_)
  have ih:=UM e fun j hj=>h j (o_ _ hj)
  rw[show RH (i::e)=[]++32::(num (i:Int)++RH e) from rfl]
  refine oc j_ fun b hb=>?_
  rcases dO.1 hb with h1|h1
  ·exact nz f5 b h1
  exact ih b h1
theorem Dm:∀L:List (List UInt8),(∀l∈L,∀b∈l,(b==10)=false)→dN 10 (L.flatMap fun l=>l++[10])=L++[[]]
 | [],_=>rfl
 |l::L,h=>by
  rw[KT,DX,List.singleton_append,ng 10 _ l (h l H_),Dm L fun u hu=>h u (o_ _ hu)];rfl
section
variable{k i:Nat}{lines:List ByteArray}{n:List Int}{out:List UInt8}{c1 c2 c3 d0 b0:Int}
theorem Pu{N K B:Nat}(hl:at_ ByteArray.empty lines (i:Int)=tx (iH N K B))(hi:i<lines.length)(hi2:i<1000)(hc:Cd N K B)(ho:out.length≤1000000)(hk:200<k):
 bg.l0 (k+1) lines n (tx out) c1 c2 c3 d0 b0 (i:Int)=bg.l0 k lines n (tx (out++[111,107,10])) (N:Int) (K:Int) (B:Int) d0 b0 ((i+1:Nat):Int):=by
 obtain⟨q1,q2,q3,q4⟩:=id hc
 obtain⟨f1,_,_,_,f5⟩:=fw (n:=N) a_
 obtain⟨g1,_,_,_,g5⟩:=fw (n:=K) a_
 obtain⟨h1,_,_,_,h5⟩:=fw (n:=B) a_
 have hw:(dN 32 (iH N K B)).map tx=tx [99,111,100,101]::kx [N,K,B]:=by
  unfold iH
  rw[ng 32 _ _ f_,ng 32 _ _ (nA f5),ng 32 _ _ (nA g5),uB 32 _ (nA h5)];rfl
 have hb:∀x∈ [N,K,B],x<256:=l_
 rw[bg.l0,bh a_,aF a_,hl,r8 (by simp[iH];omega),aJ,hw]
 rw[aF j_,bh EJ,aF l_,qR,wK j_ hb a_,aJ]
 simp only[ν,U_]
 rw[cH EJ,aF j_,aF j_,aF j_]
 rw[show at_ 0 ([N,K,B].map fun n:Nat=>(n:Int)) 0=(N:Int) from rfl,show at_ 0 ([N,K,B].map fun n:Nat=>(n:Int)) 1=(K:Int) from rfl,show at_ 0 ([N,K,B].map fun n:Nat=>(n:Int)) 2=(B:Int) from rfl]
 rw[jX hc,aJ,cH rfl]
 unfold bg.j1
 rw[show cat mZ du=tx [111,107,10] from rfl,gF,aF f_,aF aaN,bT a_]
theorem Py{d b:Nat}(hd:d≤3)(hb:b≤3)(hl:at_ ByteArray.empty lines (i:Int)=tx (mV d b))(hi:i<lines.length)(hi2:i<1000)(ho:out.length≤1000000)(hk:200<k):
 bg.l0 (k+1) lines n (tx out) c1 c2 c3 d0 b0 (i:Int)=bg.l0 k lines n (tx (out++[111,107,10])) c1 c2 c3 (d:Int) (b:Int) ((i+1:Nat):Int):=by
 obtain⟨f1,_,_,_,f5⟩:=fw (show d<256 by omega)
 obtain⟨g1,_,_,_,g5⟩:=fw (show b<256 by omega)
 have hw:(dN 32 (mV d b)).map tx=tx [112,105,99,107]::kx [d,b]:=by
  unfold mV
  rw[ng 32 _ _ f_,ng 32 _ _ (nA f5),uB 32 _ (nA g5)];rfl
 have hbb:∀x∈ [d,b],x<256:=l_
 rw[bg.l0,bh a_,aF a_,hl,r8 (by simp[mV];omega),aJ,hw]
 rw[aF j_,aQ (fun e=>by exact gu (a:=[112,105,99,107]) (b:=[99,111,100,101]) f_ e),bh EJ,aF l_,qR,wK j_ hbb a_,aJ]
 simp only[ν,U_]
 rw[cH EJ,aF j_,aF j_]
 rw[show at_ 0 ([d,b].map fun n:Nat=>(n:Int)) 0=(d:Int) from rfl,show at_ 0 ([d,b].map fun n:Nat=>(n:Int)) 1=(b:Int) from rfl]
 rw[TN hd hb,aJ,cH rfl]
 unfold bg.j2
 rw[show cat mZ du=tx [111,107,10] from rfl,gF,aF f_,aF aaN,bT a_]
theorem VI{N K B:Nat}{r:List GF}{e:List Nat}{t:List UInt8}(hN:N≤22)(h:Told N K B r e t):t.length≤1000:=by
 rcases h with⟨_,rfl⟩|⟨_,_,rfl⟩|⟨_,W,h,rfl⟩
 ·simp
 ·simp
 have h1:=gL W
 have h2:=gL (W.drop (N-K))
 have h3:=S9 (e:=wr N r W []) fun i hi=>N9
 have h4:=T7 N r W []
 have h5:=h.len
 simp only[E_,r_,FT]at *;omega
theorem Pv(hS:Su){N K B d b:Nat}{r:List GF}{e:List Nat}(hc:Cd N K B)(hN:N≤22)(hr:r.length=N)(hbe:∀i∈e,i<N)(he:e.length≤4)(hd:d≤3)(hb3:b≤3)(hl:at_ ByteArray.empty lines (i:Int)=tx (iJ r e))(hi:i<lines.length)(hi2:i<1000)(ho:out.length≤1000000)(hk:500000<k):
 ∃(n':List Int)(t:List UInt8),Told N K B r e t∧bg.l0 (k+1) lines n (tx out) (N:Int) (K:Int) (B:Int) (d:Int) (b:Int) (i:Int)=bg.l0 k lines n' (tx (out++(t++[10]))) (N:Int) (K:Int) (B:Int) (d:Int) (b:Int) ((i+1:Nat):Int):=by
 obtain⟨q1,q2,q3,q4⟩:=id hc
 obtain⟨a,n',w2,ha⟩:=Wj hS (n:=n) hc hN hr hbe he hd hb3 hk
 have hlen:=gL r
 have hlp:=SZ e fun j hj=>KX
 have hw:(dN 32 (iJ r e)).map tx=tx [100,101,99,111,100,101]::tx (cC r)::kx e:=by
  unfold iJ
  rw[ng 32 _ _ f_,VC _ (nA (sG r)) e fun j hj=>KX]
  simp[kx]
 have key:∀(a:(List Int×List Int×List Int)×Int)(t:List UInt8),mi.f k n ((N:Int),(K:Int),(B:Int)) ((d:Int),(b:Int)) (bi r) (ints e)=some (a,n')→t.length≤1000→
  ((bif !decide (a.2=0)then(jT.f a.2).bind fun x=>some x else((eM.f k a.1.2.1).bind fun x747=>(eM.f k a.1.1).bind fun x749=>(bM.f k a.1.2.2 CK).bind fun x751=>kV.f [x747,x749,x751]))=some (tx t))→
  bg.l0 (k+1) lines n (tx out) (N:Int) (K:Int) (B:Int) (d:Int) (b:Int) (i:Int)=bg.l0 k lines n' (tx (out++(t++[10]))) (N:Int) (K:Int) (B:Int) (d:Int) (b:Int) ((i+1:Nat):Int):=fun a t w2 ht hsay=>by
  have hj4:bg.j4 (bg.l0 k) k lines (tx out) (N:Int) (K:Int) (B:Int) (d:Int) (b:Int) (i:Int) n' (tx t)=bg.l0 k lines n' (tx (out++(t++[10]))) (N:Int) (K:Int) (B:Int) (d:Int) (b:Int) ((i+1:Nat):Int):=by
   unfold bg.j4
   rw[show cat (tx t) du=tx (t++[10]) from rfl,gF,aF (by rw[cK,show du.size=1 from rfl];omega),aF aaN,bT a_]
  rw[bg.l0,bh a_,aF a_,hl,r8 (by simp only[iJ,E_,r_,N_];omega),aJ,hw]
  rw[aF xn,aQ (fun e=>by exact gu (a:=[100,101,99,111,100,101]) (b:=[99,111,100,101]) f_ e),aQ (fun e=>by exact gu (a:=[100,101,99,111,100,101]) (b:=[112,105,99,107]) f_ e),aQ (fun e=>by exact gu (a:=[100,101,99,111,100,101]) (b:=[101,110,99,111,100,101]) f_ e),bh EJ,aF xn,qR,aQ xn,aF xn]
  rw[show at_ ByteArray.empty (tx (cC r)::kx e) 0=tx (cC r) from rfl,←lF,DL a_ a_,aJ,lF,aF xn,qR,wK a_ (fun j hj=>KX) a_,aJ]
  simp only[ν,U_]
  rw[show(e.map fun n:Nat=>(n:Int))=ints e from rfl,w2,aJ]
  simp only
  cases hz:decide (a.2=0)with
  |false=>
   rw[hz]at hsay
   simp only[ZJ,EK]at hsay⊢
   cases hf:jT.f a.2 with
   |none=>rw[hf]at hsay;cases hsay
   |some v=>rw[hf,aJ]at hsay;injection hsay with hsay;rw[hsay,aJ];exact hj4
  |true=>
   rw[hz]at hsay
   simp only[ν,U_]at hsay⊢
   cases h1:eM.f k a.1.2.1 with
   |none=>rw[h1]at hsay;cases hsay
   |some v1=>
    rw[h1,aJ]at hsay
    rw[aJ]
    cases h2:eM.f k a.1.1 with
    |none=>rw[h2]at hsay;cases hsay
    |some v2=>
     rw[h2,aJ]at hsay
     rw[aJ]
     cases h3:bM.f k a.1.2.2 CK with
     |none=>rw[h3]at hsay;cases hsay
     |some v3=>
      rw[h3,aJ]at hsay
      rw[aJ,hsay,aJ]
      exact hj4
 rcases ha with⟨hn,rfl⟩|⟨hn,hno,rfl⟩|⟨hn,W,hW,rfl⟩
 ·exact⟨n',_,.inl ⟨hn,rfl⟩,key _ _ w2 j_ EJ⟩
 ·exact⟨n',_,.inr (.inl ⟨hn,hno,rfl⟩),key _ _ w2 j_ EJ⟩
 have hT:Told N K B r e (cC (W.drop (N-K))++32::(cC W++32::Rz (wr N r W []))):= .inr (.inr ⟨hn,W,hW,rfl⟩)
 have htl:=VI hN hT
 have hWl:=hW.len
 refine⟨n',_,hT,key _ _ w2 htl ?_⟩
 rw[cH rfl]
 simp only
 rw[wX NI a_,aJ,wX a_ a_,aJ,Xa (fun i hi=>N9) (by have:=T7 N r W [];omega) a_,aJ,lF,lF]
 have hjoin:Lib.join [cC (W.drop (N-K)),cC W,Rz (wr N r W [])] [32]=cC (W.drop (N-K))++32::(cC W++32::Rz (wr N r W [])):=by simp[Lib.join,List.intercalate]
 unfold kV.f strings_Join.f
 have e1:([tx (cC (W.drop (N-K))),tx (cC W),tx (Rz (wr N r W []))]:List ByteArray).map (·.data.toList)=[cC (W.drop (N-K)),cC W,Rz (wr N r W [])]:=rfl
 rw[e1,show gX.data.toList=[32] from rfl,hjoin,aF ⟨j_,a_⟩];rfl
end
theorem Px(hS:Su){N K B d b k:Nat}{r:List GF}{e:List Nat}(hc:Cd N K B)(hN:N≤22)(hr:r.length=N)(hbe:∀i∈e,i<N)(he:e.length≤4)(hd:d≤3)(hb3:b≤3)(hk:600000<k):
 ∃t,Told N K B r e t∧bg.f k (tx (iH N K B++10::(mV d b++10::(iJ r e++[10]))))=some (tx ([111,107,10,111,107,10]++(t++[10]))):=by
 obtain⟨q1,q2,q3,q4⟩:=id hc
 obtain⟨f1,_,_,_,f5⟩:=fw (n:=N) a_
 obtain⟨g1,_,_,_,g5⟩:=fw (n:=K) a_
 obtain⟨h1,_,_,_,h5⟩:=fw (n:=B) a_
 obtain⟨i1,_,_,_,i5⟩:=fw (show d<256 by omega)
 obtain⟨j1,_,_,_,j5⟩:=fw (show b<256 by omega)
 have hlen:=gL r
 have hlp:=SZ e fun j hj=>KX
 have etx:iH N K B++10::(mV d b++10::(iJ r e++[10]))=[iH N K B,mV d b,iJ r e].flatMap fun l=>l++[10]:=j_
 have hcl:∀l∈ [iH N K B,mV d b,iJ r e],∀b∈l,(b==10)=false:=by
  intro l hl
  rcases X_.1 hl with rfl|hl
  ·exact oc f_ (oc (nz f5) (oc (nz g5) (nz h5)))
  rcases X_.1 hl with rfl|hl
  ·exact oc f_ (oc (nz i5) (nz j5))
  rcases X_.1 hl with rfl|hl
  ·refine oc f_ fun x hx=>?_
   rcases dO.1 hx with h|h
   ·exact nz (sG r) x h
   exact UM e (fun j hj=>KX) x h
  simp at hl
 have htl:(iH N K B++10::(mV d b++10::(iJ r e++[10]))).length≤100000:=by
  simp only[E_,iH,mV,iJ,r_,N_];omega
 have hs:(dN 10 (iH N K B++10::(mV d b++10::(iJ r e++[10])))).map tx=[tx (iH N K B),tx (mV d b),tx (iJ r e),tx []]:=by rw[etx,Dm _ hcl];rfl
 have hw1:I U ((([tx (iH N K B),tx (mV d b),tx (iJ r e),tx []].length:Nat):Int)-1)=3:=rfl
 have hlast:at_ ByteArray.empty [tx (iH N K B),tx (mV d b),tx (iJ r e),tx []] 3=tx []:=rfl
 unfold bg.f
 rw[PJ a_,aJ,hs,hw1,aF j_,hlast,bh EJ,aF j_]
 unfold bg.j0
 have hdel:[tx (iH N K B),tx (mV d b),tx (iJ r e),tx []].take (3:Int).toNat++[tx (iH N K B),tx (mV d b),tx (iJ r e),tx []].drop ([tx (iH N K B),tx (mV d b),tx (iJ r e),tx []].length:Int).toNat=[tx (iH N K B),tx (mV d b),tx (iJ r e)]:=rfl
 rw[hdel]
 obtain⟨k,rfl⟩:∃k',k=k'+1+1+1+1:=⟨k-4,a_⟩
 have r1:=Pu (k:=k+1+1+1) (i:=0) (lines:=[tx (iH N K B),tx (mV d b),tx (iJ r e)]) (n:=List.replicate 16 0) (out:=[]) (c1:=7) (c2:=3) (c3:=0) (d0:=0) (b0:=0) rfl j_ a_ hc j_ a_
 have r2:=Py (k:=k+1+1) (i:=1) (lines:=[tx (iH N K B),tx (mV d b),tx (iJ r e)]) (n:=List.replicate 16 0) (out:=[]++[111,107,10]) (c1:=N) (c2:=K) (c3:=B) (d0:=0) (b0:=0) hd hb3 rfl j_ a_ j_ a_
 obtain⟨n',t,ht,r3⟩:=Pv hS (k:=k+1) (i:=2) (lines:=[tx (iH N K B),tx (mV d b),tx (iJ r e)]) (n:=List.replicate 16 0) (out:=[]++[111,107,10]++[111,107,10]) hc hN hr hbe he hd hb3 rfl j_ a_ j_ a_
 refine⟨t,ht,?_⟩
 rw[show tx ([]:List UInt8)=ByteArray.empty from rfl]at r1
 rw[show((0:Nat):Int)=0 from rfl]at r1
 refine r1.trans (ZI r2 (ZI r3 ?_))
 rw[bg.l0,aQ j_]
 simp
end Go.Proofs.YtmhkpafkadijgaaGreatDoor.Gw
namespace Go.Proofs.YtmhkpafkadijgaaGreatDoor.Gw
open Go GF
theorem J9(k:Nat):pP.f (k+100000)=some true:=d_
end Go.Proofs.YtmhkpafkadijgaaGreatDoor.Gw
namespace Go.Proofs.YtmhkpafkadijgaaGreatDoor.Gw
open Go.IntKind renaming wrap→I,i64→U
open Go Go.RowKit GF
theorem Sj(x y:Nat):Int.tmod (x:Int) (y:Int)=((x%y:Nat):Int):=by rw[EO a_];omega
theorem PF{a0 a1 a2:Int}(b0:0≤a0∧a0≤255)(b1:0≤a1∧a1≤255)(b2:0≤a2∧a2≤255):∃N K B:Nat,Cd N K B∧N≤22∧nU.f a0 a1 a2=some ((N:Int),(K:Int),(B:Int)):=by
 obtain⟨n,rfl⟩:∃n:Nat,a0=n:=⟨a0.toNat,a_⟩
 obtain⟨k,rfl⟩:∃n:Nat,a1=n:=⟨a1.toNat,a_⟩
 obtain⟨b,rfl⟩:∃n:Nat,a2=n:=⟨a2.toNat,a_⟩
 have key:∀N:Nat,2≤N→N≤69→∃K B:Nat,Cd N K B∧jj.j0 (k:Int) (b:Int) (N:Int)=some ((N:Int),(K:Int),(B:Int)):=fun N h1 h2=>by
  have hm:=ZE k (show 0<N-1 by omega)
  refine⟨1+k%(N-1),b%255,⟨a_,a_,a_,a_⟩,?_⟩
  unfold jj.j0
  have e1:I U ((N:Int)-1)=((N-1:Nat):Int):=by rw[ca a_ a_];omega
  rw[e1,aF a_,iB a_,iB a_,Sj,show(255:Int)=((255:Nat):Int) from rfl,Sj,ca a_ a_]
  rfl
 unfold nU.f jj.f
 rw[show(31:Int)=((31:Nat):Int) from rfl,show(32:Int)=((32:Nat):Int) from rfl,Sj,Sj,show(40:Int)=((40:Nat):Int) from rfl,Sj,show(21:Int)=((21:Nat):Int) from rfl,Sj]
 obtain⟨K,B,h1,h2⟩:=key (2+n%31%21) a_ a_
 have e:I U (2+I U ((n%31%21:Nat):Int))=((2+n%31%21:Nat):Int):=by rw[iB a_,ca a_ a_];omega
 exact⟨_,K,B,h1,a_,by rw[aQ a_,e,h2];rfl⟩
theorem Mj{N K B:Nat}(hK:K<1000)(p:List GF):∃m:List GF,m.length=K∧nT.f ((N:Int),(K:Int),(B:Int)) (bi p)=some (bi m):=by
 refine⟨cB 0 (List.replicate K (0:GF)).length p (List.replicate K 0),by rw[YR];simp,?_⟩
 unfold nT.f
 simp only
 rw[aF a_,n_]
 congr 1
 unfold cB
 rw[gZ,YO,lh,lh,YO,nu,gb,gb]
theorem Tz{N K B:Nat}(h0:0<N)(hN:N≤255)(p:List GF):∀(d i k:Nat)(L:List Nat),i+d=p.length→p.length≤9223372036854775807→L.length≤N→(∀j∈L,j<N)→1000+d<k→
 ∃L':List Nat,L'.length≤N∧(∀j∈L',j<N)∧RD.l0 k ((N:Int),(K:Int),(B:Int)) (bi p) (N:Int) (ints L) (i:Int)=some (ints L')
 |d,i,0,_,_,_,_,_,h=>a_
 |0,i,k+1,L,hi,hp,hL,hb,hk=>⟨L,hL,hb,by rw[RD.l0,aQ g_]⟩
 |d+1,i,k+1,L,hi,hp,hL,hb,hk=>by
  have w1:I U ((i:Int)+1)=((i+1:Nat):Int):=by rw[ca a_ a_];omega
  by_cases h:L.length<N
  ·have ha:=(p.getD i 0).2
   have hlt:=ZE (p.getD i 0).1 h0
   obtain⟨z,p1,p2,p3⟩:=To (L:=L) a_ ((p.getD i 0).1%N) (k:=k) a_
   have hst:RD.l0 (k+1) ((N:Int),(K:Int),(B:Int)) (bi p) (N:Int) (ints L) (i:Int)=bif decide (z<0)then RD.l0 k ((N:Int),(K:Int),(B:Int)) (bi p) (N:Int) (ints (L++[(p.getD i 0).1%N])) ((i+1:Nat):Int)else RD.l0 k ((N:Int),(K:Int),(B:Int)) (bi p) (N:Int) (ints L) ((i+1:Nat):Int):=by
    rw[RD.l0]
    simp only
    rw[bh g_,bh G_,aF g_,aF a_,cI,iB a_,Sj,p1,aJ,aF BC,w1,show ints L++[(((p.getD i 0).1%N:Nat):Int)]=ints (L++[(p.getD i 0).1%N]) by simp[ints]]
   by_cases hz:z<0
   ·obtain⟨L',q1,q2,q3⟩:=Tz (K:=K) (B:=B) h0 hN p d (i+1) k (L++[(p.getD i 0).1%N]) a_ hp l_ (fun j hj=>by
     rcases dO.1 hj with h|h
     ·exact hb j h
     rw[Q_.1 h];exact hlt) a_
    exact⟨L',q1,q2,by rw[hst,bh hz,q3]⟩
   obtain⟨L',q1,q2,q3⟩:=Tz (K:=K) (B:=B) h0 hN p d (i+1) k L a_ hp hL hb a_
   exact⟨L',q1,q2,by rw[hst,aQ hz,q3]⟩
  exact⟨L,hL,hb,by rw[RD.l0];simp only;rw[bh g_,aQ G_]⟩
theorem Uc{N:Nat}{L:List Nat}{p:List GF}{x5:List Int×Int}(hb:∀j∈L,j<N)(hL:L.length≤255)(hN:N≤255):∀(d i k:Nat)(r:List GF),i+d=L.length→r.length=N→d<k→
 ∃r':List GF,r'.length=N∧Rq.l0 k (bi p) x5 (ints L) (bi r) (i:Int)=some (x5.1,bi r')
 |d,i,0,_,_,_,h=>a_
 |0,i,k+1,r,hi,hr,hk=>⟨r,hr,by rw[Rq.l0,aQ G_]⟩
 |d+1,i,k+1,r,hi,hr,hk=>by
  have hiL:i<L.length:=a_
  have hlt:L.getD i 0<N:=hb _ (by simp[bF,hiL])
  have hj:∀g:GF,∃r':List GF,r'.length=N∧Rq.j0 (Rq.l0 k) k (bi p) x5 (ints L) (bi r) (i:Int) ((g.1:Nat):Int)=some (x5.1,bi r'):=fun g=>by
   obtain⟨r',q1,q2⟩:=Uc (p:=p) (x5:=x5) hb hL hN d (i+1) k (r.set (L.getD i 0) (r.getD (L.getD i 0) 0+g)) a_ (by rw[υ];exact hr) a_
   refine⟨r',q1,?_⟩
   unfold Rq.j0
   rw[aF G_,aF G_,ints_at hiL,aF g_,aF g_,cI,xor_val,n_,gY,bT a_]
   exact q2
  by_cases h:i<p.length
  ·obtain⟨r',q1,q2⟩:=hj (p.getD i 0)
   exact⟨r',q1,by rw[Rq.l0,bh G_,bh g_,aF g_,cI];exact q2⟩
  obtain⟨g0,g1⟩:=u8_in (I U (1+(i:Int)))
  obtain⟨g,hg⟩:∃g:GF,IntKind.u8.wrap (I U (1+(i:Int)))=((g.1:Nat):Int):=⟨GF.of (IntKind.u8.wrap (I U (1+(i:Int)))).toNat a_,by
   show _=(((IntKind.u8.wrap (I U (1+(i:Int)))).toNat:Nat):Int);omega⟩
  obtain⟨r',q1,q2⟩:=hj g
  exact⟨r',q1,by rw[Rq.l0,bh G_,aQ g_,hg];exact q2⟩
theorem We{N K B k:Nat}(hc:Cd N K B)(p4 p5 p6:List GF)(hp:p5.length≤9223372036854775807)(hk:40000+p5.length<k):∃(x:List Int)(r:List GF),r.length=N∧Rq.f k ((N:Int),(K:Int),(B:Int)) (bi p4) (bi p5) (bi p6) (N:Int)=some (x,bi r):=by
 obtain⟨q1,q2,q3,q4⟩:=id hc
 obtain⟨m,hm,e2⟩:=Mj (N:=N) (K:=K) (B:=B) a_ p4
 obtain⟨W,hW,e3⟩:=O7 (k:=k) hc hm a_
 have hWl:=hW.len
 obtain⟨L,g1,g2,g3⟩:=Tz (K:=K) (B:=B) (show 0<N by omega) q3 p5 p5.length 0 k [] a_ hp j_ j_ a_
 obtain⟨r,h1,h2⟩:=Uc (p:=p6) (x5:=(bi W,0)) g2 a_ q3 L.length 0 k W a_ hWl a_
 refine⟨bi W,r,h1,?_⟩
 unfold Rq.f RD.f
 simp only
 rw[e2,aJ,e3,aJ]
 simp only
 rw[aF EN,show([]:List Int)=ints [] from rfl,show(0:Int)=((0:Nat):Int) from rfl,g3,aJ]
 exact h2
theorem VL{L:List Nat}(hL:L.length<1000){i:Nat}(hi:i<L.length):∀(d j k:Nat),j+d=i→(∀a<j,L.getD a 0≠L.getD i 0)→Rr.l1 (k+d+1) (ints L) (i:Int) (j:Int)=some true∧¬L.Nodup∨(∀a<i,L.getD a 0≠L.getD i 0)∧Rr.l1 (k+d+1) (ints L) (i:Int) (j:Int)=Rr.l0 k (ints L) ((i+1:Nat):Int)
 |0,j,k,hj,hn=>by
  obtain rfl:j=i:=a_
  exact .inr ⟨hn,by rw[Rr.l1,aQ a_,bT a_]⟩
 |d+1,j,k,hj,hn=>by
  have hst:Rr.l1 (k+(d+1)+1) (ints L) (i:Int) (j:Int)=bif decide (((L.getD j 0:Nat):Int)=((L.getD i 0:Nat):Int))then some true else Rr.l1 (k+d+1) (ints L) (i:Int) ((j+1:Nat):Int):=by
   rw[show k+(d+1)+1=(k+d+1)+1 by omega,Rr.l1,bh a_,aF G_,aF G_,ints_at hi,ints_at a_,bT a_]
  by_cases h:L.getD j 0=L.getD i 0
  ·exact .inl ⟨by rw[hst,bh a_],fun hnd=>Tc.1 hnd j i a_ hi h⟩
  have:=VL hL hi d (j+1) k a_ fun a ha=>by
   by_cases e:a=j
   ·rw[e];exact h
   exact hn a a_
  rw[hst,aQ a_];exact this
theorem VK{L:List Nat}(hL:L.length<100):∀(d i k:Nat),i+d=L.length→d*200<k→(∀a b,a<b→b<i→L.getD a 0≠L.getD b 0)→Rr.l0 k (ints L) (i:Int)=some (!decide L.Nodup)
 |d,i,0,_,h,_=>a_
 |0,i,k+1,hi,hk,hn=>by
  have:L.Nodup:=Tc.2 fun a b h1 h2=>hn a b h1 a_
  rw[Rr.l0,aQ G_,W_ this];rfl
 |d+1,i,k+1,hi,hk,hn=>by
  obtain⟨k,rfl⟩:∃k',k=k'+i+1:=⟨k-i-1,a_⟩
  rw[Rr.l0,bh G_]
  rcases VL a_ (show i<L.length by omega) i 0 k a_ (fun a ha=>absurd ha (ET _))with⟨h1,h2⟩|⟨h1,h2⟩
  ·rw[θ h2];exact h1
  refine ZI h2 (VK hL d (i+1) k a_ a_ fun a b hab hb=>?_)
  by_cases e:b=i
  ·rw[e];exact h1 a a_
  exact hn a b hab a_
theorem VM{L:List Nat}{k:Nat}(hL:L.length<100)(hk:20000<k):Rr.f k (ints L)=some (!decide L.Nodup):=VK hL L.length 0 k a_ a_ fun a b _ hb=>absurd hb (ET _)
theorem KR{N K B:Nat}(hN:N<256)(hK:K<256)(hB:B<256):nV.f ((N:Int),(K:Int),(B:Int))=some (tx (iH N K B++[10])):=by
 obtain⟨f1,_⟩:=fw hN
 obtain⟨g1,_⟩:=fw hK
 obtain⟨h1,_⟩:=fw hB
 unfold nV.f
 simp only
 rw[nR a_,nR a_,nR a_]
 simp only[aJ]
 rw[show lf=tx [99,111,100,101,32] from rfl,show gX=tx [32] from rfl,show sr=tx [10] from rfl]
 repeat rw[gF]
 rw[aF Δ,aF Δ,aF Δ,aF Δ,aF Δ,aF Δ]
 simp[iH]
theorem sz(a b:List UInt8)(h:a.length+b.length≤100000):(tx a).size+(tx b).size≤140737488355328:=by rw[cK,cK];omega
theorem U0{e:List Nat}(hb:∀i∈e,i<256)(he:e.length≤300):∀(d i k:Nat),i+d=e.length→d<k→R2.l0 k (ints e) (tx (RH (e.take i))) (i:Int)=some (tx (RH e))
 |d,i,0,_,h=>a_
 |0,i,k+1,hi,hk=>by
  rw[R2.l0,aQ G_,D_ a_]
 |d+1,i,k+1,hi,hk=>by
  have hie:i<e.length:=a_
  have hx:=hb e[i] (T_ hie)
  obtain⟨f1,_⟩:=fw hx
  have h1:=SZ (e.take i) fun j hj=>hb j (LK hj)
  rw[ζ]at h1
  rw[R2.l0,bh G_,show mI=tx [32] from rfl,aF (sz _ _ aan),aF G_,ints_at hie,bF,C_ hie,Ld,nR a_,aJ,gF,aF (sz _ _ PT),gF,bT a_,←U0 hb he d (i+1) k a_ a_]
  congr 2
  rw[y_ hie]
  unfold RH
  rw[List.flatMap_append]
  simp
theorem Cg{e:List Nat}{k:Nat}(hb:∀i∈e,i<256)(he:e.length≤300)(hk:400<k):R2.f k (ints e)=some (tx (RH e)):=U0 hb he e.length 0 k a_ a_
theorem Xc(x:Nat):∀{t:List Nat},t≠ []→Rz (t++[x])=Rz t++44::num (x:Int)
 | [],h=>absurd rfl h
 |a::t,_=>by rw[Bv,Rz,Rz];simp
section
variable{N K B d b:Nat}{r:List GF}{e:List Nat}{a3:Int}{x:List Int}
theorem W9(hS:Su)(hc:Cd N K B)(hN:N≤22)(hr:r.length=N)(hbe:∀i∈e,i<N)(he:e.length≤4)(hd:d≤3)(hb3:b≤3)(hD:I U (Int.tmod a3 4)=(d:Int))(hB:I U (Int.tmod (IntKind.u8.wrap (Int.tdiv a3 4)) 4)=(b:Int)){t:List UInt8}(ht:Told N K B r e t){k:Nat}(hk:700000<k):
 bj.j1 k a3 ((N:Int),(K:Int),(B:Int)) (x,bi r) (ints e) (tx t)=some true:=by
 obtain⟨q1,q2,q3,q4⟩:=id hc
 obtain⟨s,hs,hrun⟩:=Px hS (k:=k) (d:=d) (b:=b) hc hN hr hbe he hd hb3 a_
 obtain rfl:=Yy hc hN ht hs
 obtain⟨f1,_⟩:=fw (n:=N) a_
 obtain⟨g1,_⟩:=fw (n:=K) a_
 obtain⟨h1,_⟩:=fw (n:=B) a_
 obtain⟨i1,_⟩:=fw (n:=d) a_
 obtain⟨j1,_⟩:=fw (n:=b) a_
 have hlen:=gL r
 have hlp:=SZ e fun j hj=>KX
 have htl:=VI hN ht
 have hcl:(iH N K B).length≤30:=by simp[iH];omega
 obtain⟨k,rfl⟩:∃k',k=k'+100000:=⟨k-100000,a_⟩
 unfold bj.j1
 simp only
 rw[hD,hB,nR a_,aJ,nR a_,aJ,J9,aJ,EK,KR a_ a_ a_,aJ,xt a_ a_,aJ,Cg (fun j hj=>KX) a_ a_,aJ,lF]
 rw[show nS=tx [112,105,99,107,32] from rfl,show mI=tx [32] from rfl,show mH=tx [10] from rfl,show vV=tx [100,101,99,111,100,101,32] from rfl,show SK=tx [111,107,10,111,107,10] from rfl]
 repeat rw[gF]
 have htext:iH N K B++[10]++([112,105,99,107,32]++num (d:Int)++[32]++num (b:Int)++[10])++[100,101,99,111,100,101,32]++cC r++RH e++[10]=iH N K B++10::(mV d b++10::(iJ r e++[10])):=by
  simp[mV,iJ]
 rw[aF (sz _ _ w_),aF (sz _ _ w_),aF (sz _ _ w_),aF (sz _ _ w_),aF (sz _ _ w_),aF (sz _ _ w_),aF (sz _ _ w_),aF (sz _ _ w_),aF (sz _ _ w_),htext,hrun,aJ,aF (sz _ _ w_),aF (sz _ _ w_)]
 congr 1
 rw[aaB,sc]
 simp
theorem Bf(y:List Int)(hA:∀i∈e,i<256)(he:e.length≤300)(L:List Nat)(v:List Int×Bool)(y2:List Int):∀(dd i k:Nat),i+dd=e.length→
 bj.l1 (k+dd+1) a3 ((N:Int),(K:Int),(B:Int)) (x,bi r) (ints L) v ((y2,y,ints e),0) (tx (Rz (e.take i))) (i:Int)=bj.j2 k a3 ((N:Int),(K:Int),(B:Int)) (x,bi r) (ints L) v ((y2,y,ints e),0) (tx (Rz e))
 |0,i,k,hi=>by
  rw[bj.l1,aQ (by simp only;rw[iQ];omega),D_ a_]
 |dd+1,i,k,hi=>by
  have hie:i<e.length:=a_
  have hx:=hA e[i] (T_ hie)
  obtain⟨f1,_⟩:=fw hx
  have ih:=Bf y hA he L v y2 dd (i+1) k a_
  rw[y_ hie]at ih
  have hat:at_ 0 (ints e) (i:Int)=((e[i]:Nat):Int):=by rw[ints_at hie,bF,C_ hie,Ld]
  rw[show k+(dd+1)+1=(k+dd+1)+1 by omega,bj.l1]
  simp only
  rw[bh G_]
  by_cases h:i=0
  ·subst h
   have hat0:at_ 0 (ints e) 0=((e[0]:Nat):Int):=hat
   rw[bh a_,aF G_,hat0,nR a_,aJ,bT a_]
   rw[bP,ψ]at ih
   simp only[Rz,List.flatMap_nil,fQ]at ih
   exact ih
  have hne:e.take i≠ []:=by
   intro e0
   have:=L_ List.length e0
   rw[ζ,N_]at this;omega
  have hl:=S9 (e:=e.take i) fun j hj=>hA j (LK hj)
  rw[ζ]at hl
  rw[Xc _ hne]at ih
  rw[aQ a_,show lG=tx [44] from rfl,aF (sz _ _ aan),aF G_,hat,nR a_,aJ,gF,aF (sz _ _ PT),gF,bT a_,DX]
  exact ih
theorem W8(hS:Su)(hc:Cd N K B)(hN:N≤22)(hr:r.length=N)(hbe:∀i∈e,i<N)(he:e.length≤4)(hd:d≤3)(hb3:b≤3)(hD:I U (Int.tmod a3 4)=(d:Int))(hB:I U (Int.tmod (IntKind.u8.wrap (Int.tdiv a3 4)) 4)=(b:Int)){k:Nat}(hk:800000<k):
 bj.j0 (bj.l1 k) k a3 ((N:Int),(K:Int),(B:Int)) (x,bi r) (ints e)=some true:=by
 obtain⟨q1,q2,q3,q4⟩:=id hc
 have hj1:∀t k,Told N K B r e t→700000<k→bj.j1 k a3 ((N:Int),(K:Int),(B:Int)) (x,bi r) (ints e) (tx t)=some true:=fun t k ht hk=>W9 hS hc hN hr hbe he hd hb3 hD hB ht hk
 unfold bj.j0
 simp only
 by_cases hn:e.Nodup
 ·obtain⟨res,m1,m2⟩:=XY (k:=k) ⟨hc,hN,hr,hn,hbe,he⟩ a_
  rw[m1,aJ,VM a_ a_,aJ,W_ hn]
  simp only[ν,U_]
  rcases m2 with⟨g1,g2⟩|⟨W,g1,rfl⟩
  ·rw[g1]
   exact hj1 [101,114,114,111,114,32,49,52] k (.inr (.inl ⟨hn,g2,rfl⟩)) a_
  simp only[ν,U_]
  have hWl:=g1.len
  have hwl:=T7 N r W []
  obtain⟨k2,hk2⟩:∃k',k=k'+(wr N r W []).length+1:=⟨k-(wr N r W []).length-1,a_⟩
  rw[XI hc hr g1.len a_,aJ]
  have hl1:=Bf (N:=N) (K:=K) (B:=B) (r:=r) (a3:=a3) (x:=x) (e:=wr N r W []) (bi (W.drop (N-K))) (fun i hi=>N9) a_ e (bi W,true) (bi W) (wr N r W []).length 0 k2 a_
  rw[hk2]
  refine ZI hl1 ?_
  unfold bj.j2
  simp only
  have h1:=gL W
  have h2:=gL (W.drop (N-K))
  have h3:=S9 (e:=wr N r W []) fun i hi=>N9
  rw[FT]at h2
  rw[xt NI a_,aJ,xt a_ a_,aJ,lF,lF,show mI=tx [32] from rfl]
  repeat rw[gF]
  rw[aF (sz _ _ w_),aF (sz _ _ w_),aF (sz _ _ w_),aF (sz _ _ w_)]
  exact hj1 _ k2 (.inr (.inr ⟨hn,W,g1,j_⟩)) a_
 rw[XX hc hr a_ hbe hn a_,aJ,VM a_ a_,aJ,θ hn]
 exact hj1 [101,114,114,111,114,32,49,51] k (.inl ⟨hn,rfl⟩) a_
theorem Be(hS:Su)(hc:Cd N K B)(hN:N≤22)(hr:r.length=N)(hd:d≤3)(hb3:b≤3)(hD:I U (Int.tmod a3 4)=(d:Int))(hB:I U (Int.tmod (IntKind.u8.wrap (Int.tdiv a3 4)) 4)=(b:Int))(p:List GF):∀(dd i k:Nat)(e:List Nat),i+dd=4→e.length≤i→(∀i∈e,i<N)→900000<k→
 bj.l0 (k+dd+1) a3 (bi p) ((N:Int),(K:Int),(B:Int)) (x,bi r) (ints e) (i:Int)=some true
 |dd,i,k,e,hi,he,hbe,hk=>by
  have hj0:∀k,900000<k→bj.j0 (bj.l1 k) k a3 ((N:Int),(K:Int),(B:Int)) (x,bi r) (ints e)=some true:=fun k hk=>W8 hS hc hN hr hbe a_ hd hb3 hD hB a_
  rw[bj.l0]
  by_cases h:i<p.length
  ·rw[bh g_]
   match dd,hi with
   |0,hi=>rw[aQ a_];exact hj0 _ hk
   |dd+1,hi=>
    have hN0:0<N:=by have:=hc.kn;omega
    have hlt:=ZE (p.getD i 0).1 hN0
    have ha:=(p.getD i 0).2
    simp only
    rw[bh a_,aF g_,aF a_,cI,iB a_,Sj,aF BC,bT a_,show ints e++[(((p.getD i 0).1%N:Nat):Int)]=ints (e++[(p.getD i 0).1%N]) by simp[ints],show k+(dd+1)=k+dd+1 by omega]
    exact Be hS hc hN hr hd hb3 hD hB p dd (i+1) k _ a_ l_ (fun j hj=>by
     rcases dO.1 hj with h|h
     ·exact hbe j h
     rw[Q_.1 h];exact hlt) hk
  rw[aQ g_];exact hj0 _ a_
end
theorem VV(hS:Su){a0 a1 a2 a3:Int}{l4 l5 l6 l7:List Int}(b0:0≤a0∧a0≤255)(b1:0≤a1∧a1≤255)(b2:0≤a2∧a2≤255)(b3:0≤a3∧a3≤255)(h4:cR l4=true)(h5:cR l5=true)(h6:cR l6=true)(h7:cR l7=true)(hl:l5.length≤9223372036854775807):bj.f (1000000+l5.length) a0 a1 a2 a3 l4 l5 l6 l7=some true:=by
 obtain⟨N,K,B,hc,hN,e1⟩:=PF b0 b1 b2
 obtain⟨p4,rfl⟩:=yE h4
 obtain⟨p5,rfl⟩:=yE h5
 obtain⟨p6,rfl⟩:=yE h6
 obtain⟨p7,rfl⟩:=yE h7
 rw[YO]at hl⊢
 obtain⟨x,r,hr,e2⟩:=We (k:=1000000+p5.length) hc p4 p5 p6 hl a_
 obtain⟨n,rfl⟩:∃n:Nat,a3=n:=⟨a3.toNat,a_⟩
 have hD:I U (Int.tmod (n:Int) 4)=((n%4:Nat):Int):=by
  rw[show(4:Int)=((4:Nat):Int) from rfl,Sj,iB a_]
 have hB:I U (Int.tmod (IntKind.u8.wrap (Int.tdiv (n:Int) 4)) 4)=((n/4%4:Nat):Int):=by
  have ed:Int.tdiv (n:Int) 4=((n/4:Nat):Int):=by rw[EP a_];omega
  rw[ed,lY a_ a_,show(4:Int)=((4:Nat):Int) from rfl,Sj,iB a_]
 unfold bj.f
 rw[e1,aJ]
 simp only
 rw[e2,aJ]
 have:=Be (x:=x) hS hc hN hr (show n%4≤3 by omega) (show n/4%4≤3 by omega) hD hB p7 4 0 (1000000+p5.length-5) [] a_ j_ j_ a_
 rw[show 1000000+p5.length-5+4+1=1000000+p5.length by omega]at this
 exact this
end Go.Proofs.YtmhkpafkadijgaaGreatDoor.Gw
