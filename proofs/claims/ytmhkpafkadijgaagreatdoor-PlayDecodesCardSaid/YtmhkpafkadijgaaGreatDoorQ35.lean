/- A part of the proof of Rows.PlayDecodesCardSaid; the conditions are that card's own. -/
import Derived.Test.YtmhkpafkadijgaaGreatDoorQ34
import Derived.Test.YtmhkpafkadijgaaGreatDoorQ30
set_option linter.all false
namespace Go.Proofs.YtmhkpafkadijgaaGreatDoor.Gw
open Go.IntKind renaming wrap→I,i64→U
open Go Go.RowKit GF
theorem Po(K t:Nat)(y:GF→GF)(xs:List GF):Mx xs.length (K+t+(t+1)) (iv K t y xs):=
 ⟨by simp[iv],fun r hr=>by
  obtain⟨x,_,rfl⟩:=uV.1 hr
  exact Pm K t x (y x)⟩
theorem Xl{R C:Nat}{M:List (List GF)}(hR:R≤300)(hC:C≤300)(h:Mx R C M){k:Nat}(hk:10000+2*R+C*(R*(C+4)+R+3)+C*(R+3)<k):
 ∃Z:List (List GF),dF.f k ((R:Int),(C:Int),bi M.flatten)=some (Z.map bi)∧(∀z∈Z,z.length=C∧iz R M z∧∃c,c<z.length∧z.getD c 0≠0)∧((∃z:List GF,z.length=C∧iz R M z∧∃c,c<C∧z.getD c 0≠0)→Z≠ []):=by
 obtain⟨M',L,e1,e2,e3,e4⟩:=Iq hR hC h (k:=k) a_
 obtain⟨fs,f1,f2,f3⟩:=wJ hR hC e2 e3 C 0 k [] a_ a_ l_
 refine⟨fs.map fun f=>nv M' L C f L.length,?_,fun z hz=>?_,fun⟨z,z1,z2,c,c1,c2⟩ e0=>?_⟩
 ·unfold dF.f
  simp only[]
  rw[e1,aJ,show(0:Int)=((0:Nat):Int) from rfl,f1]
  simp
 ·obtain⟨f,hf,rfl⟩:=uV.1 hz
  obtain⟨g1,g2⟩:=f2 f hf
  exact⟨rI _ _ _ _ _,(e4 _).1 (ME e3 g1 g2),f,by rw[rI];exact g1,aa7⟩
 obtain⟨j,hj,hfree⟩:=IT e3 z1 ((e4 z).2 z2) c c1 c2
 have hm:=f3 j (jc _) hj hfree
 rw[List.map_eq_nil_iff.1 e0]at hm
 simp at hm
theorem Wy{p d:List GF}{k:Nat}(hp:p.length<120)(hd:d.length<120)(hk:80000<k):∃q ok,oq.f k (bi p) (bi d)=some (bi q,ok)∧q.length≤250:=by
 by_cases h:aW d=[]
 ·refine⟨[],false,?_,j_⟩
  unfold oq.f cU.f
  rw[qP a_ a_,h,aJ,bh j_];rfl
 obtain⟨R,q,e,h1,h2,h3,h4⟩:=IZ (p:=p) (d:=d) a_ a_ h hk
 have hq:=gP q
 unfold oq.f
 rw[e,aJ]
 simp only[ν,U_]
 by_cases hR:0<R.length
 ·exact⟨[],false,by rw[bh g_];rfl,j_⟩
 exact⟨aW q,true,by rw[aQ g_],a_⟩
theorem Yp{K t k:Nat}{y:GF→GF}{xs:List GF}(hn:xs.Nodup)(h0:0<xs.length)(hx:xs.length≤40)(hK:1≤K)(hlen:K+2*t≤xs.length)(hk:300000<k):∃p ok,fl.f k (bi xs) (bi (xs.map y)) (K:Int) (t:Int)=some (bi p,ok)∧p.length≤250∧
 ∀P:List GF,P.length=K→gU y P xs≤t→ok=true∧p=aW P:=by
 obtain⟨k,rfl⟩:∃k',k=k'+xs.length+1:=⟨k-xs.length-1,a_⟩
 have hm:=Po K t y xs
 have hb1:xs.length*(K+t+(t+1)+4)≤40*45:=Φ hx a_
 have hb2:(K+t+(t+1))*(xs.length*(K+t+(t+1)+4)+xs.length+3)≤41*(40*45+43):=Φ a_ a_
 have hb3:(K+t+(t+1))*(xs.length+3)≤41*43:=Φ a_ a_
 obtain⟨Z,e1,e2,e3⟩:=Xl (k:=k) a_ a_ hm a_
 have hl0:=Dk (t:=t) hK a_ y xs a_ xs.length 0 k a_ a_
 rw[bP]at hl0
 have hstep:∀z rest,Z=z::rest→fl.f (k+xs.length+1) (bi xs) (bi (xs.map y)) (K:Int) (t:Int)=oq.f k (bi (z.take (K+t))) (bi (z.drop (K+t))):=fun z rest hz=>by
  obtain⟨z1,_,_⟩:=e2 z (by rw[hz];exact H_)
  have wa:I U ((K:Int)+(t:Int))=((K+t:Nat):Int):=by rw[ca a_ a_];omega
  have ha0:at_ [] (bi z::rest.map bi) 0=bi z:=rfl
  unfold fl.f
  rw[show(0:Int)=((0:Nat):Int) from rfl]
  refine ZI hl0 ?_
  unfold fl.j0
  rw[Mc hm.row Qa Qa a_ a_,aJ]
  simp only[ν,U_]
  rw[hm.len,e1,hz,ι,aJ,aQ xn,aF xn,ha0,wa,aF g_,aF xn,aF g_,EU,n_,Γ,lh,nu]
  cases oq.f k (bi (z.take (K+t))) (bi (z.drop (K+t)))<;>rfl
 match Z,e1,e2,e3,hstep with
 | [],e1,e2,e3,_=>
  refine⟨[],false,?_,j_,fun P hP hu=>absurd rfl (e3 (PH hK hP hu))⟩
  unfold fl.f
  rw[show(0:Int)=((0:Nat):Int) from rfl]
  refine ZI hl0 ?_
  unfold fl.j0
  rw[Mc hm.row Qa Qa a_ a_,aJ]
  simp only[ν,U_]
  rw[hm.len,e1];rfl
 |z::rest,e1,e2,e3,hstep=>
  obtain⟨z1,z2,z3⟩:=e2 z H_
  have hz1:(z.take (K+t)).length=K+t:=IK
  have hz2:(z.drop (K+t)).length=t+1:=NI
  obtain⟨p,ok,h1,h2⟩:=Wy (p:=z.take (K+t)) (d:=z.drop (K+t)) (k:=k) a_ a_ a_
  refine⟨p,ok,by rw[hstep z rest rfl,h1],h2,fun P hP hu=>?_⟩
  obtain⟨g1,g2⟩:=PI hn a_ hP hu hlen z1 z2 z3
  have hex:=IG (k:=k) (p:=z.take (K+t)) (d:=z.drop (K+t)) (P:=P) a_ a_ a_ g2 g1 a_
  rw[h1]at hex
  injection hex with hex
  exact⟨L_ Prod.snd hex,Wf (L_ Prod.fst hex)⟩
def dQ(xs:List GF):Prop:=∃(s:List Int)(lim:Int),s.length=xs.length∧(∀i:Nat,0<i→i<s.length→at_ 0 s (i:Int)≠at_ 0 s ((i-1:Nat):Int))∧dx.f (IntKind.u64.wrap (xs.length:Int))=some lim∧∀k,5000<k→bW.f k (bi xs) 0 (xs.length:Int) lim=some ((),s)
theorem z8(xs:List GF)(ys:List Int)(K:Int)(hx:xs.length<1000):∀(d i k:Nat),i+d=xs.length→
 cG.l0 (k+d+1) (bi xs) ys K (bi (xs.take i)) (i:Int)=(dx.f (IntKind.u64.wrap (xs.length:Int))).bind fun x=>(bW.f k (bi xs) 0 (xs.length:Int) x).bind fun s=>bif decide ((s.2.length:Int)<2)then cG.j1 k (bi xs) ys K s else cG.l1 k (bi xs) ys K s 1
 |0,i,k,hi=>by
  rw[cG.l0,aQ g_,D_ a_,YO]
 |d+1,i,k,hi=>by
  have hix:i<xs.length:=a_
  rw[show k+(d+1)+1=(k+d+1)+1 by omega,cG.l0,bh g_,aF g_,aF (by rw[YO,ζ];simp;omega),bT a_,cI]
  have e:bi (xs.take i)++[(((xs.getD i 0).1:Nat):Int)]=bi (xs.take (i+1)):=by
   rw[y_ hix,gb,dG hix];rfl
  rw[e]
  exact z8 xs ys K hx d (i+1) k a_
theorem Aa(xs ys:List Int)(K:Int){s:List Int}(hs:s.length<1000)(hd:∀i:Nat,0<i→i<s.length→at_ 0 s (i:Int)≠at_ 0 s ((i-1:Nat):Int)):∀(d i k:Nat),i+d=s.length→0<i→
 cG.l1 (k+d+1) xs ys K ((),s) (i:Int)=cG.j1 k xs ys K ((),s)
 |0,i,k,hi,h0=>by
  rw[cG.l1,aQ iU]
 |d+1,i,k,hi,h0=>by
  have w:I U ((i:Int)-1)=((i-1:Nat):Int):=by rw[ca a_ a_];omega
  rw[show k+(d+1)+1=(k+d+1)+1 by omega,cG.l1]
  simp only[]
  rw[bh a_,aF a_,w,aF a_,aQ (hd i h0 a_),bT a_]
  exact Aa xs ys K hs hd d (i+1) k a_ a_
theorem WA{K k:Nat}{y:GF→GF}{xs:List GF}(hn:xs.Nodup)(hsrt:dQ xs)(hx:xs.length≤40)(hK:1≤K)(hKn:K≤xs.length)(hk:400000<k):∃p ok,cG.f k (bi xs) (bi (xs.map y)) (K:Int)=some (bi p,ok)∧p.length≤250∧
 ∀P:List GF,P.length=K→gU y P xs≤(xs.length-K)/2→ok=true∧p=aW P:=by
 obtain⟨s,lim,s1,s2,s3,s4⟩:=hsrt
 obtain⟨k,rfl⟩:∃k',k=k'+xs.length+1:=⟨k-xs.length-1,a_⟩
 have ht:I U (Int.tdiv (I U (((bi xs).length:Int)-(K:Int))) 2)=(((xs.length-K)/2:Nat):Int):=by
  rw[YO,ca (x:=(xs.length:Int)-(K:Int)) a_ a_,show(xs.length:Int)-(K:Int)=((xs.length-K:Nat):Int) by omega,EP a_,ca a_ a_];omega
 have hj1:∀k2,300000<k2→∃p ok,cG.j1 k2 (bi xs) (bi (xs.map y)) (K:Int) ((),s)=some (bi p,ok)∧p.length≤250∧∀P:List GF,P.length=K→gU y P xs≤(xs.length-K)/2→ok=true∧p=aW P:=fun k2 hk2=>by
  obtain⟨p,ok,p1,p2,p3⟩:=Yp (k:=k2) (y:=y) hn a_ hx hK (t:=(xs.length-K)/2) a_ hk2
  have hu2:∀P:List GF,gU y (aW P) xs=gU y P xs:=fun P=>by
   unfold gU;congr 1;refine Ov fun x _=>by rw[fG]
  unfold cG.j1
  rw[ht]
  simp only[]
  rw[aQ (by rw[YO,s1];omega),p1,aJ]
  simp only[]
  cases ok with
  |false=>exact⟨[],false,rfl,j_,fun P h1 h2=>absurd (p3 P h1 h2).1 j_⟩
  |true=>
   simp only[ν,U_]
   rw[qP a_ a_,aJ,Qn y a_ a_ a_,aJ]
   by_cases h1:(K:Int)≤((aW p).length:Int)-1
   ·refine⟨[],false,by rw[bh h1];rfl,j_,fun P q1 q2=>?_⟩
    have hP:=gP P
    rw[(p3 P q1 q2).2,wH]at h1
    omega
   by_cases h2:(xs.length-K)/2<gU y p xs
   ·refine⟨[],false,by rw[aQ h1,bh a_];rfl,j_,fun P q1 q2=>?_⟩
    rw[(p3 P q1 q2).2,hu2]at h2
    omega
   exact⟨p,true,by rw[aQ h1,aQ a_],p2,p3⟩
 have hl0:=z8 xs (bi (xs.map y)) (K:Int) a_ xs.length 0 k a_
 rw[bP,s3,aJ,s4 k a_,aJ]at hl0
 have hstart:cG.f (k+xs.length+1) (bi xs) (bi (xs.map y)) (K:Int)=bif decide ((s.length:Int)<2)then cG.j1 k (bi xs) (bi (xs.map y)) (K:Int) ((),s)else cG.l1 k (bi xs) (bi (xs.map y)) (K:Int) ((),s) 1:=by
  unfold cG.f
  rw[aQ a_,aQ g_,cH (by rw[YO,YO,x_]),θ g_]
  unfold cG.j0
  rw[U_,show(0:Int)=((0:Nat):Int) from rfl]
  exact ZI hl0 rfl
 by_cases h2:(s.length:Int)<2
 ·obtain⟨p,ok,p1,p2⟩:=hj1 k a_
  exact⟨p,ok,by rw[hstart,bh h2,p1],p2⟩
 have:=Aa (bi xs) (bi (xs.map y)) (K:Int) a_ s2 (s.length-1) 1 (k-s.length) a_ a_
 rw[show k-s.length+(s.length-1)+1=k by omega]at this
 obtain⟨p,ok,p1,p2⟩:=hj1 (k-s.length) a_
 exact⟨p,ok,by rw[hstart,aQ h2,show(1:Int)=((1:Nat):Int) from rfl,this,p1],p2⟩
def gA(N:Nat)(e:List Nat):List Nat:=(List.range N).filter fun i=>!decide (i∈e)
theorem Sn{N:Nat}{e:List Nat}{i:Nat}:i∈gA N e↔i<N∧i ∉ e:=by simp[gA,Lt]
theorem Uw(i:Nat)(e:List Nat):gA (i+1) e=gA i e++(if i∈e then []else [i]):=by
 unfold gA
 rw[EW,ZG,Le,aaf]
 by_cases h:i∈e
 ·rw[I_ (by rw[W_ h];simp),M_ h]
 rw[M_ (by rw[θ h];rfl),I_ h]
theorem TD{N:Nat}{e:List Nat}(hn:e.Nodup)(h:∀i∈e,i<N):(gA N e).length+e.length=N:=by
 have h1:=Ts (gA N e++e) (List.range N) (ZP.2 ⟨List.nodup_range.filter _,hn,fun i hi j hj e0=>(Sn.1 hi).2 (e0▸hj)⟩) fun i hi=>φ.2 ((dO.1 hi).elim (fun h=>(Sn.1 h).1) (h i))
 have h2:=Ts (List.range N) (gA N e++e) aaQ fun i hi=>by
  by_cases he:i∈e
  ·exact Gx _ he
  exact FC _ (Sn.2 ⟨φ.1 hi,he⟩)
 rw[E_,yC]at h1 h2
 omega
theorem VQ(N:Nat)(r W:List GF)(e:List Nat):wr N r W e=(gA N e).filter fun i=>!decide (r.getD i 0=W.getD i 0):=by
 unfold wr gA;rw[List.filter_filter]
theorem Ud{N K B:Nat}{r:List GF}{e:List Nat}{y:GF→GF}(hN:N≤250)(hr:r.length=N)(he:e.length<900)(hy:∀i<N,y (pow al i)=r.getD i 0*inv (wv al N B i)):∀(d i k:Nat),i+d=N→2000<k→
 eY.l0 (k+d+1) (((N:Int),(K:Int),(B:Int)),bi r,ints e) (bi (bl al N),bi (jy N B)) (bi ((gA i e).map (pow al))) (bi (((gA i e).map (pow al)).map y)) (i:Int)=eY.j0 k (((N:Int),(K:Int),(B:Int)),bi r,ints e) (bi ((gA N e).map (pow al))) (bi (((gA N e).map (pow al)).map y))
 |0,i,k,hi,hk=>by
  obtain rfl:i=N:=a_
  rw[eY.l0,aQ (by simp only[];rw[YO,dI];omega)]
 |d+1,i,k,hi,hk=>by
  have hiN:i<N:=a_
  have hle:(gA i e).length≤i:=by
   have:=xJ (fun i=>!decide (i∈e)) (List.range i)
   rw[yC]at this;exact this
  have ih:=Ud (K:=K) hN hr he hy d (i+1) k a_ hk
  rw[Uw]at ih
  rw[show k+(d+1)+1=(k+d+1)+1 by omega,eY.l0]
  simp only[]
  rw[bh Ls,aF Ls,Uf a_ a_,aJ,bT a_]
  by_cases h:i∈e
  ·rw[M_ h,fQ]at ih
   rw[W_ h,EK];exact ih
  rw[I_ h]at ih
  rw[θ h,U_,aF (by rw[YO,hr];omega),aF (by rw[YO,qq];omega),cI,cI,QL hiN,II _ (D3 qA N B i),aJ]
  simp only[]
  rw[aF OB,aF Nv,cI,tZ al hiN,←hy i hiN,←ih]
  congr 1<;>simp[bi]
section
variable{N K B:Nat}{r:List GF}{e:List Nat}(J:SV N K B r e)
include J
theorem Xy(hsrt:dQ ((gA N e).map (pow al))){k:Nat}(hk:500000<k):∃res,eY.f k (((N:Int),(K:Int),(B:Int)),bi r,ints e)=some res∧Tl N K B r e res:=by
 obtain⟨c1,c2,c3,c4⟩:=id J.c
 have h1:=J.few;have h2:=J.N60
 have hlen:=TD J.nd J.lt
 have hnd:=Cv (N:=N) a_
 obtain⟨y,hy⟩:=AR hnd fun i=>r.getD i 0*inv (wv al N B i)
 have hy:∀i<N,y (pow al i)=r.getD i 0*inv (wv al N B i):=fun i hi=>by
  have:=hy i (by rw[dI];exact hi)
  rw[tZ al hi]at this;exact this
 have hxn:((gA N e).map (pow al)).Nodup:=SY qA (Sk J.N60) (List.nodup_range.filter _) fun i hi=>(Sn.1 hi).1
 have hun:∀W P,RL N K B r W e→(∀i<N,pv P (pow al i)=W.getD i 0*inv (wv al N B i))→gU y P ((gA N e).map (pow al))=(wr N r W e).length:=fun W P hW hP=>by
  unfold gU
  rw[List.filter_map,x_,VQ]
  congr 1
  refine Ov fun i hi=>?_
  have hi:=(Sn.1 hi).1
  show(!decide (pv P (pow al i)=y (pow al i)))=_
  rw[hP i hi,hy i hi]
  congr 1
  refine PO.2 ⟨fun h=>?_,fun h=>by rw[h]⟩
  rw[mul_comm,mul_comm (r.getD i 0)]at h
  exact(mul_left (tu (D3 qA N B i)) h).symm
 obtain⟨k2,hk2⟩:∃k',k=k'+N+1:=⟨k-N-1,a_⟩
 have hxl:((gA N e).map (pow al)).length=N-e.length:=Fe
 obtain⟨p,ok,f1,f2,f3⟩:=WA (K:=K) (y:=y) (k:=k2) hxn hsrt a_ c1 a_ a_
 have hnear:∀W,RL N K B r W e→ok=true∧(List.range N).map (fun i=>wv al N B i*pv p (pow al i))=W:=fun W hW=>by
  obtain⟨P,hP,hv⟩:=QG (B:=B) (K:=K) qA hW.len (show K≤N by omega) hnd fun j hj=>hW.root j hj
  have hf:=hW.fits
  obtain⟨g1,g2⟩:=f3 P hP (by rw[hun W P hW hv,hxl];omega)
  refine⟨g1,?_⟩
  apply Fq (by simp[hW.len])
  intro i h1 h2
  have hi:i<N:=LX
  rw[Fj,FN,g2,fG,Qr qA hv i hi,dG (by rw[hW.len];exact hi)]
 have hl0:=Ud (K:=K) (e:=e) a_ J.r a_ hy N 0 k2 a_ a_
 rw[show gA 0 e=[] from rfl,rW,rW,Tu]at hl0
 have hdo:eY.f k (((N:Int),(K:Int),(B:Int)),bi r,ints e)=some (bif ok&&R0 N K B r ((List.range N).map fun i=>wv al N B i*pv p (pow al i)) e then(bi ((List.range N).map fun i=>wv al N B i*pv p (pow al i)),true)else([],false)):=by
  unfold eY.f
  simp only[]
  rw[Co J.c a_ a_ a_,aJ,hk2,show(0:Int)=((0:Nat):Int) from rfl]
  refine ZI hl0 ?_
  unfold eY.j0
  simp only[]
  rw[f1,aJ]
  cases ok with
  |false=>rfl
  |true=>
   simp only[ν,U_,NM]
   rw[O1 J.c a_ a_ a_ a_,aJ,T9 J.c J.r j_ J.few (J.er a_) a_,aJ]
   cases R0 N K B r ((List.range N).map fun i=>wv al N B i*pv p (pow al i)) e<;>rfl
 refine⟨_,hdo,?_⟩
 cases ho:ok&&R0 N K B r ((List.range N).map fun i=>wv al N B i*pv p (pow al i)) e with
 |false=>
  refine .inl ⟨rfl,fun W hW=>?_⟩
  obtain⟨g1,g2⟩:=hnear W hW
  rw[g1,g2,(SJ hW.len).2 hW]at ho
  cases ho
 |true=>
  rw[S_]at ho
  exact .inr ⟨_,(SJ j_).1 ho.2,rfl⟩
end
def P3(d:Nat):Prop:=d=1∨d=2∨d=3
structure Ask (N K B:Nat) (r:List GF) (e:List Nat):Prop where
 c:Cd N K B
 N22:N≤22
 r:r.length=N
 nd:e.Nodup
 lt:∀i∈e,i<N
 e4:e.length≤4
theorem Wg{N K B:Nat}{r:List GF}{e:List Nat}(J:Ask N K B r e)(hsrt:dQ ((gA N e).map (pow al))){k d:Nat}(hd:P3 d)(hk:500000<k):∃res,jY.f k (d:Int) ((N:Int),(K:Int),(B:Int)) (bi r) (ints e)=some res∧Tl N K B r e res:=by
 obtain⟨c1,c2,c3,c4⟩:=id J.c
 have h4:=J.e4;have h22:=J.N22
 have hmay:jw.f k (((N:Int),(K:Int),(B:Int)),bi r,ints e)=some (decide (e.length≤N-K)):=by
  unfold jw.f
  simp only
  rw[S5 J.c a_ J.lt a_,M_ J.nd,aJ,bh rfl,bh (by rw[YO,J.r]),rZ J.c,aJ,iQ]
  congr 1
  exact PO.2 ⟨fun h=>a_,fun h=>a_⟩
 by_cases hf:e.length≤N-K
 ·have J2:SV N K B r e:=⟨J.c,a_,J.r,J.nd,J.lt,hf⟩
  rw[W_ hf]at hmay
  rcases hd with rfl|rfl|rfl
  ·obtain⟨res,r1,r2⟩:=XQ J2 (k:=k) a_
   refine⟨res,?_,r2⟩
   unfold jY.f
   rw[bh (show((1:Nat):Int)=1 from rfl)]
   simp only
   rw[hmay,aJ]
   simp only[ν,U_]
   rw[r1];rfl
  ·obtain⟨res,r1,r2⟩:=XR J2 (k:=k) a_
   refine⟨res,?_,r2⟩
   unfold jY.f
   rw[aQ f_,bh (show((2:Nat):Int)=2 from rfl)]
   simp only
   rw[hmay,aJ]
   simp only[ν,U_]
   rw[r1];rfl
  obtain⟨res,r1,r2⟩:=Xy J2 hsrt (k:=k) hk
  refine⟨res,?_,r2⟩
  unfold jY.f
  rw[aQ f_,aQ f_,bh (show((3:Nat):Int)=3 from rfl)]
  simp only
  rw[hmay,aJ]
  simp only[ν,U_]
  rw[r1];rfl
 refine⟨([],false),?_,.inl ⟨rfl,fun W hW=>hf (by have:=hW.fits;omega)⟩⟩
 rw[θ hf]at hmay
 unfold jY.f
 rcases hd with rfl|rfl|rfl
 ·rw[bh (show((1:Nat):Int)=1 from rfl)];simp only;rw[hmay];rfl
 ·rw[aQ f_,bh (show((2:Nat):Int)=2 from rfl)];simp only;rw[hmay];rfl
 rw[aQ f_,aQ f_,bh (show((3:Nat):Int)=3 from rfl)];simp only;rw[hmay];rfl
theorem Vm(a:GF):∀(d x k:Nat),x+d=256→30+d<k→(∀b:GF,b.1<x→a*b≠1)→iX.l0 k ((a.1:Nat):Int) (x:Int)=some (if a=0 then(0,false)else((((inv a).1:Nat):Int),true))
 |d,x,0,_,h,_=>a_
 |0,x,k+1,hx,hk,hn=>by
  rw[iX.l0,aQ a_]
  by_cases h:a=0
  ·rw[M_ h]
  exact absurd (gN h) (hn (inv a) (by have:=(inv a).2;omega))
 |d+1,x,k+1,hx,hk,hn=>by
  have hx2:x<256:=a_
  have hw:IntKind.u8.wrap (x:Int)=(((⟨x,hx2⟩:GF).1:Nat):Int):=lY a_ a_
  rw[iX.l0,bh a_,hw,qk a_,aJ,bT a_]
  by_cases h1:a*⟨x,hx2⟩=1
  ·have h0:a≠0:=fun e=>by rw[e,zero_mul]at h1;exact absurd h1 f_
   have e:(⟨x,hx2⟩:GF)=inv a:=mul_left h0 (h1.trans (gN h0).symm)
   rw[bh (by rw[h1];rfl),I_ h0,e]
  rw[aQ (fun e=>h1 (GF.ext (by simp only[YS];omega)))]
  exact Vm a d (x+1) k a_ a_ fun b hb e=>by
   by_cases e2:b.1=x
   ·exact h1 (by rw[←e];congr 1;exact GF.ext e2.symm)
   exact hn b a_ e
theorem Tn(b:GF){a:GF}(h:a≠0){k:Nat}(hk:300<k):oz.f k ((b.1:Nat):Int) ((a.1:Nat):Int)=some (((b*inv a).1:Nat):Int):=by
 have:=Vm a 256 0 k a_ a_ fun b hb=>absurd hb (ET _)
 unfold oz.f iX.f
 rw[show(0:Int)=((0:Nat):Int) from rfl,this,I_ h,aJ]
 simp only
 rw[qk a_,aJ]
theorem Tp(a:GF){n k:Nat}(hn:n<4611686018427387904)(hk:1000<k):eX.f k ((a.1:Nat):Int) (n:Int)=some (((pow a n).1:Nat):Int):=by
 unfold eX.f
 by_cases h0:n=0
 ·subst h0;rw[bh EJ];rfl
 rw[aQ a_]
 by_cases ha:a=0
 ·subst ha
  obtain⟨m,rfl⟩:∃m,n=m+1:=⟨n-1,a_⟩
  rw[bh EJ,pow,mul_zero];rfl
 have h1:a.1≠0:=fun e=>ha (GF.ext e)
 have e1:Int.tmod (n:Int) 255=((n%255:Nat):Int):=by rw[EO a_];omega
 have:=C6 a (n%255) a_ (n%255) 0 k a_ a_
 rw[aQ a_,e1,aQ a_]
 unfold eX.j0
 rw[GF.ext (a:=pow a (n%255)) (b:=pow a n) (by rw[jW,jW];exact nP a.2 h1 n)]at this
 exact this
theorem Va(p:List GF)(x:GF)(hp:p.length<1000):∀(d i k:Nat),i+d=p.length→1100+d<k→RI.l0 k (bi p) ((x.1:Nat):Int) (((sm (fun j=>p.getD j 0*pow x j) (List.range i)).1:Nat):Int) (i:Int)=some (((pv p x).1:Nat):Int)
 |d,i,0,_,h=>a_
 |0,i,k+1,hi,hk=>by
  obtain rfl:i=p.length:=a_
  rw[RI.l0,aQ g_,←SO (aI _)]
 |d+1,i,k+1,hi,hk=>by
  have e:sm (fun j=>p.getD j 0*pow x j) (List.range (i+1))=sm (fun j=>p.getD j 0*pow x j) (List.range i)+p.getD i 0*pow x i:=by rw[EW,Tr,sm,sm,add_zero]
  rw[RI.l0,bh g_,aF g_,Tp x a_ a_,aJ,cI,qk a_,aJ,xor_val,bT a_,←e]
  exact Va p x hp d (i+1) k a_ a_
theorem TO{p:List GF}{x:GF}{k:Nat}(hp:p.length<1000)(hk:2200<k):RI.f k (bi p) ((x.1:Nat):Int)=some (((pv p x).1:Nat):Int):=Va p x hp p.length 0 k a_ a_
theorem X4{N K B k:Nat}(hc:Cd N K B)(hk:1300<k):js.f k ((N:Int),(K:Int),(B:Int))=some (bi (eQ B (N-K))):=by
 obtain⟨c1,c2,c3,c4⟩:=id hc
 exact C7 hc (N-K) 0 k a_ a_
theorem Vl{W:List GF}(hW:W.length<1000)(l:List GF)(hl:l.length<1000):∀(d i k:Nat),i+d=l.length→2300+d<k→RX.l0 k (bi W) (bi l) (i:Int)=some ((l.drop i).all fun x=>decide (pv W x=0))
 |d,i,0,_,h=>a_
 |0,i,k+1,hd,hk=>by
  rw[RX.l0,aQ g_,Θ a_];rfl
 |d+1,i,k+1,hd,hk=>by
  have hi:i<l.length:=a_
  rw[RX.l0,bh g_,aF g_,cI,TO a_ a_,aJ,bT a_,δ hi,PX,←dG hi]
  by_cases h:pv W (l.getD i 0)=0
  ·rw[cH (by rw[h];rfl),W_ h,NM]
   exact Vl hW l hl d (i+1) k a_ a_
  rw[kg (fun e=>h (GF.ext aaS)),θ h,Oy]
theorem XV{N K B k:Nat}{W:List GF}(hc:Cd N K B)(hW:W.length=N)(hk:4000<k):RX.f k ((N:Int),(K:Int),(B:Int)) (bi W)=some ((eQ B (N-K)).all fun x=>decide (pv W x=0)):=by
 obtain⟨c1,c2,c3,c4⟩:=id hc
 unfold RX.f
 simp only
 rw[xv hc,aJ,cH rfl,cH (by rw[YO,hW]),X4 hc a_,aJ]
 have:=Vl (W:=W) a_ (eQ B (N-K)) Z4 (N-K) 0 k Z4 a_
 rw[Γ]at this
 exact this
theorem Vr{L:List Nat}(hL:L.length<1000)(n:Nat):∀(d i k:Nat),i+d=L.length→d<k→(∀a,a<i→L.getD a 0≠n)→∃z:Int,Ry.l0 k (ints L) (n:Int) (i:Int)=some z∧(z<0↔n ∉ L)∧(0≤z→∃a:Nat,z=a∧a<L.length∧L.getD a 0=n∧∀b<a,L.getD b 0≠n)
 |d,i,0,_,h,_=>a_
 |0,i,k+1,hi,hk,hn=>by
  refine⟨-1,by rw[Ry.l0,aQ G_],⟨fun _ hm=>?_,fun _=>a_⟩,fun h=>a_⟩
  obtain⟨a,ha,e⟩:=ES hm
  exact hn a a_ (by rw[bF,C_ ha];exact e)
 |d+1,i,k+1,hi,hk,hn=>by
  by_cases e:L.getD i 0=n
  ·refine⟨(i:Int),by rw[Ry.l0,bh G_,aF G_,ints_at a_,bh a_],⟨fun h=>a_,fun h=>absurd ?_ h⟩,fun _=>⟨i,rfl,a_,e,hn⟩⟩
   rw[←e,bF,C_ a_];exact T_ _
  obtain⟨z,z1,z2⟩:=Vr hL n d (i+1) k a_ a_ fun a ha=>by
   by_cases ea:a=i
   ·rw[ea];exact e
   exact hn a a_
  exact⟨z,by rw[Ry.l0,bh G_,aF G_,ints_at a_,aQ a_,bT a_,z1],z2⟩
theorem To{L:List Nat}(hL:L.length<1000)(n:Nat){k:Nat}(hk:1000<k):∃z:Int,Ry.f k (ints L) (n:Int)=some z∧(z<0↔n ∉ L)∧(0≤z→∃a:Nat,z=a∧a<L.length∧L.getD a 0=n∧∀b<a,L.getD b 0≠n):=
 Vr hL n L.length 0 k a_ a_ fun a ha=>a_
theorem Tc{L:List Nat}:L.Nodup↔∀a b,a<b→b<L.length→L.getD a 0≠L.getD b 0:=by
 rw[Cf,Ω]
 constructor
 ·intro h a b hab hb
  have:=h a b a_ hb hab
  simpa [bF,hb,show a<L.length by omega] using this
 intro h a b ha hb hab
 have:=h a b hab hb
 simpa [bF,hb,ha] using this
theorem Vi{N K B:Nat}{e:List Nat}(he:e.length<500)(hb:∀n∈e,n<N):∀(d i k:Nat),i+d=e.length→1100+d<k→(∀a b,a<b→b<i→e.getD a 0≠e.getD b 0)→RO.l0 k ((N:Int),(K:Int),(B:Int)) (ints e) (i:Int)=some (if e.Nodup then 0 else 13)
 |d,i,0,_,h,_=>a_
 |0,i,k+1,hd,hk,hn=>by
  rw[RO.l0,aQ G_,M_ (Tc.2 fun a b h1 h2=>hn a b h1 a_)]
 |d+1,i,k+1,hd,hk,hn=>by
  have hi:i<e.length:=a_
  have hm:e.getD i 0∈e:=by rw[bF,C_ hi];exact T_ hi
  have hb':=hb _ hm
  obtain⟨z,z1,z2,z3⟩:=To (L:=e) a_ (e.getD i 0) (k:=k) a_
  have hz:0≤z:=xq fun h=>absurd hm (z2.1 a_)
  obtain⟨a,rfl,a1,a2,a3⟩:=z3 hz
  have hai:a≤i:=xq fun h=>a3 i a_ rfl
  rw[RO.l0,bh G_,aF G_,ints_at hi,aQ a_,aF G_]
  simp only
  rw[aQ a_,aF G_,z1,aJ,bT a_]
  by_cases h:a<i
  ·rw[bh a_,I_ fun hnd=>Tc.1 hnd a i h hi a2]
  rw[aQ a_]
  refine Vi he hb d (i+1) k a_ a_ fun x y h1 h2=>?_
  by_cases hy:y=i
  ·subst hy;exact a3 x a_
  exact hn x y h1 a_
theorem TT{N K B k:Nat}{e:List Nat}(hc:Cd N K B)(he:e.length<500)(hb:∀n∈e,n<N)(hk:2000<k):RO.f k ((N:Int),(K:Int),(B:Int)) (ints e)=some (if e.Nodup then 0 else 13):=by
 unfold RO.f
 simp only
 rw[xv hc,aJ,cH rfl]
 exact Vi he hb e.length 0 k a_ a_ fun a b h1 h2=>a_
theorem U8{r w:List GF}(h:r.length=w.length)(hw:w.length<500):∀(d i k:Nat),i+d=w.length→d<k→RP.l0 k (bi r) (bi w) (ints (wr i r w [])) (i:Int)=some (ints (wr w.length r w []))
 |d,i,0,_,h=>a_
 |0,i,k+1,hd,hk=>by
  obtain rfl:i=w.length:=a_
  rw[RP.l0,aQ g_]
 |d+1,i,k+1,hd,hk=>by
  have hl:(wr i r w []).length≤i:=FY
  have ih:=U8 h hw d (i+1) k a_ a_
  have hs:wr (i+1) r w []=_:=T8 (N:=i) r w [] i
  rw[RP.l0,bh g_,bh g_,aF g_,aF g_,cI,cI,bT a_]
  rw[hs]at ih
  by_cases h1:r.getD i 0=w.getD i 0
  ·rw[cH (Sw.2 h1)]
   rw[I_ (fun x=>x.1 h1),fQ]at ih;exact ih
  rw[kg (fun x=>h1 (Sw.1 x)),aF BC]
  rw[M_ ⟨h1,j_⟩]at ih
  rw[←ih];congr 1;simp[ints]
theorem U9{r w:List GF}{k:Nat}(h:r.length=w.length)(hw:w.length<500)(hk:500<k):RP.f k (bi r) (bi w)=some (ints (wr w.length r w [])):=U8 h hw w.length 0 k a_ a_
theorem YD(N:Nat)(r w:List GF)(e:List Nat):(wr N r w []).filter (fun i=>!decide (i∈e))=wr N r w e:=by
 unfold wr;rw[List.filter_filter]
 refine Ov fun i _=>?_
 simp[Bool.and_comm]
theorem Vy{e A:List Nat}(he:e.length<500)(hA:A.length<500):∀(d i k:Nat),i+d=A.length→1100+d<k→RV.l0 k (ints e) (ints A) ((((A.take i).filter fun i=>!decide (i∈e)).length:Nat):Int) (i:Int)=some (((A.filter fun i=>!decide (i∈e)).length:Nat):Int)
 |d,i,0,_,h=>a_
 |0,i,k+1,hd,hk=>by
  rw[RV.l0,aQ G_,D_ a_]
 |d+1,i,k+1,hd,hk=>by
  have hi:i<A.length:=a_
  have hl:=xJ (fun i=>!decide (i∈e)) (A.take i)
  rw[ζ]at hl
  obtain⟨z,z1,z2,_⟩:=To (L:=e) a_ (A.getD i 0) (k:=k) a_
  have ih:=Vy he hA d (i+1) k a_ a_
  rw[S1 hi,ZG,Le,aaf]at ih
  rw[RV.l0,bh G_,aF G_,ints_at hi,z1,aJ,bT a_,bT a_]
  by_cases h:A.getD i 0∈e
  ·rw[aQ (fun hz=>z2.1 hz h)]
   rw[I_ (by rw[W_ h];simp),fQ]at ih;exact ih
  rw[bh (z2.2 h)]
  rw[M_ (by rw[θ h];rfl),E_]at ih;exact ih
theorem XH{N K B k:Nat}{r w:List GF}{e:List Nat}(hc:Cd N K B)(hr:r.length=N)(hw:w.length=N)(he:e.length≤N-K)(hn:e.Nodup)(hlt:∀i∈e,i<N)(hk:5000<k):SD.f k ((N:Int),(K:Int),(B:Int)) (bi r) (ints e) (bi w)=some (R0 N K B r w e):=by
 obtain⟨c1,c2,c3,c4⟩:=id hc
 have hwr:(wr N r w []).length≤N:=by unfold wr;have:=xJ (fun i=>!decide (r.getD i 0=w.getD i 0)&&!decide (i∈([]:List Nat))) (List.range N);rw[yC]at this;exact this
 have h1:=Vy (e:=e) (A:=wr N r w []) a_ a_ (wr N r w []).length 0 k a_ a_
 have hl:(wr N r w e).length≤N:=Gu
 rw[YD,bP]at h1
 unfold SD.f
 simp only
 rw[xv hc,aJ,bh rfl,bh N8,TT hc a_ hlt a_,M_ hn,aJ,bh rfl,XV hc hw a_,aJ]
 unfold R0
 cases hh:(eQ B (N-K)).all fun x=>decide (pv w x=0)with
 |false=>rfl
 |true=>
  simp only[EK,NM]
  unfold RV.f
  rw[U9 (hr.trans hw.symm) a_ a_,aJ,hw]
  have h2:RV.l0 k (ints e) (ints (wr N r w [])) 0 0=some ((wr N r w e).length:Int):=h1
  rw[h2,aJ]
  unfold SP.f
  simp only
  rw[C9 hc,aJ,xv hc,aJ,bh rfl,bh a_,bh a_,iQ]
  by_cases h3:(wr N r w e).length≤N-K
  ·rw[bh a_,bh a_,ca (x:=2*((wr N r w e).length:Int)) a_ a_,ca a_ a_,aJ]
   congr 1
   exact PO.2 ⟨fun h=>a_,fun h=>a_⟩
  rw[aQ a_,θ a_];rfl
theorem XZ{N K B:Nat}{W:List GF}(hc:Cd N K B)(h:W.length=N):SC.f ((N:Int),(K:Int),(B:Int)) (bi W)=some (bi (W.drop (N-K)),0):=by
 obtain⟨c1,c2,c3,c4⟩:=id hc
 unfold SC.f
 simp only
 rw[xv hc,aJ,cH rfl,cH (by rw[YO,h]),C9 hc,aJ,aF (by rw[YO,h];omega),EU,n_,nu,aF (by rw[YO,FT];simp;omega),ψ]
theorem XI{N K B k:Nat}{r W:List GF}(hc:Cd N K B)(hr:r.length=N)(h:W.length=N)(hk:3000<k):SE.f k ((N:Int),(K:Int),(B:Int)) (bi r) (bi W)=some ((bi W,bi (W.drop (N-K)),ints (wr N r W [])),0):=by
 obtain⟨c1,c2,c3,c4⟩:=id hc
 unfold SE.f
 simp only
 rw[XZ hc h,aJ,cH rfl,cH N8,U9 (hr.trans h.symm) a_ a_,aJ,h,aF (by rw[YO,h];simp;omega),ψ]
theorem Vk{s:Nat}{g:List GF}{c:GF}(hg:g.length<250)(hsg:s<g.length)(hgz:∀j,s<j→g.getD j 0=0)(hgc:g.getD s 0=c)(hc0:c≠0):∀(d i k:Nat)(l q:List GF),i+1=s+d→i<300→i<q.length+s→q.length<400→aW l=l→(∀j,i+1≤j→l.getD j 0=0)→(∀j,j+s≤i→q.getD j 0=0)→3000+d<k→
 ∃R q':List GF,R.length≤s∧aW R=R∧q'.length=q.length∧(∀x,pv l x+pv q x*pv g x=pv q' x*pv g x+pv R x)∧eC.l0 k (bi g) (s:Int) (bi l) (bi q) (i:Int)=some (bi (aW q'),bi R,true)
 |d,i,0,_,_,_,_,_,_,_,_,_,h=>a_
 |0,i,k+1,l,q,hd,hi,hq,hq2,hn,hz,hqz,hk=>by
  refine⟨l,q,?_,hn,rfl,fun x=>GF.add_comm _ _,?_⟩
  ·rw[←hn];exact wE fun j hj=>hz j a_
  rw[eC.l0,aQ a_]
  unfold eC.j0
  rw[nc a_ a_];rfl
 |d+1,i,k+1,l,q,hd,hi,hq,hq2,hn,hz,hqz,hk=>by
  have hll:l.length≤i+1:=abg
  have e2:I U ((i:Int)-(s:Int))=((i-s:Nat):Int):=by rw[ca a_ a_];omega
  have e4:I U ((i:Int)-1)=(i:Int)-1:=ca a_ a_
  obtain⟨t,ht⟩:∃t,t=l.getD i 0*inv c:=⟨_,rfl⟩
  have htc:t*c=l.getD i 0:=by rw[ht,mul_assoc,mul_comm (inv c),gN hc0,mul_one]
  have hn1:=gP (g.map (t* ·))
  rw[x_]at hn1
  have hn2:=gP (List.replicate (i-s) 0++aW (g.map (t* ·)))
  rw[E_,P_]at hn2
  obtain⟨l2,hl2⟩:∃l2,l2=aW (gR l (aW (List.replicate (i-s) 0++aW (g.map (t* ·))))):=⟨_,rfl⟩
  have hstep:eC.l0 (k+1) (bi g) (s:Int) (bi l) (bi q) (i:Int)=eC.l0 k (bi g) (s:Int) (bi l2) (bi (q.set (i-s) t)) ((i:Int)-1):=by
   rw[eC.l0,bh a_,aF g_,uq,aJ,cI,hgc,Tn _ hc0 a_,aJ,e2,aF g_,←ht,Pq a_ a_,aJ,De a_ a_ a_,aJ,OU a_ a_ a_,aJ,n_,gY,e4,←hl2]
  have hget:∀j,i≤j→l2.getD j 0=0:=fun j hj=>by
   have e5:(List.replicate (i-s) 0++aW (g.map (t* ·))).getD j 0=(aW (g.map (t* ·))).getD (j-(i-s)) 0:=by
    simp only[bF]
    rw[ε l_,P_]
   rw[hl2,jR,B6,jR,e5,jR,pV]
   rcases Nat.eq_or_lt_of_le hj with rfl|hlt
   ·rw[show i-(i-s)=s by omega,hgc,htc,eE]
   rw[hz j a_,hgz _ a_,mul_zero,add_zero]
  have hval:∀x,pv l2 x=pv l x+pow x (i-s)*(t*pv g x):=fun x=>by rw[hl2,fG,B7,fG,fS,ic,zero_add,P_,fG,mX]
  have hnn:aW l2=l2:=by rw[hl2];exact wG _
  have hfin:∀(R q':List GF),(∀x,pv l2 x+pv (q.set (i-s) t) x*pv g x=pv q' x*pv g x+pv R x)→∀x,pv l x+pv q x*pv g x=pv q' x*pv g x+pv R x:=fun R q' h x=>by
   rw[←h x,hval x,ub x t q _ a_,hqz (i-s) a_,zero_add,add_mul]
   rw[show pv l x+pow x (i-s)*(t*pv g x)+(pv q x*pv g x+pow x (i-s)*t*pv g x)=pv l x+pv q x*pv g x+(pow x (i-s)*t*pv g x+pow x (i-s)*t*pv g x) by ac_rfl,eE,add_zero]
  by_cases h0:i=0
  ·have hs0:s=0:=a_
   have hd0:d=0:=a_
   subst h0;subst hs0
   refine⟨l2,q.set (0-0) t,?_,hnn,by rw[υ],hfin l2 _ fun x=>GF.add_comm _ _,?_⟩
   ·rw[←hnn];exact wE fun j hj=>hget j hj
   obtain⟨k,rfl⟩:∃m,k=m+1:=⟨k-1,a_⟩
   rw[hstep,eC.l0,aQ a_]
   unfold eC.j0
   rw[nc η η];rfl
  obtain⟨R,q',r1,r2,r3,r4,r5⟩:=Vk hg hsg hgz hgc hc0 d (i-1) k l2 (q.set (i-s) t) a_ a_ η η hnn (fun j hj=>hget j a_) (fun j hj=>by
   rw[bF,PZ a_,←bF];exact hqz j a_) a_
  refine⟨R,q',r1,r2,by rw[r3,υ],hfin R q' r4,?_⟩
  rw[hstep,show(i:Int)-1=((i-1:Nat):Int) by omega,r5]
theorem XU{p d:List GF}{k:Nat}(hp:p.length<120)(hd:d.length<120)(hd0:aW d≠ [])(hk:5000<k):
 ∃R q:List GF,eC.f k (bi p) (bi d)=some (bi (aW q),bi R,true)∧R.length<(aW d).length∧aW R=R∧q.length=p.length+1∧∀x,pv p x=pv q x*pv (aW d) x+pv R x:=by
 have hpos:=Bz.2 hd0
 obtain⟨s,hs⟩:∃s,(aW d).length=s+1:=⟨_,(Lm hpos).symm⟩
 have hle:=gP d
 have hlp:=gP p
 have hlast:=pY hd0
 rw[hs,FK,jR]at hlast
 have e1:I U (((bi p).length:Int)+1)=((p.length+1:Nat):Int):=by rw[YO,ca a_ a_];omega
 by_cases hsp:s≤p.length+1
 ·obtain⟨R,q',r1,r2,r3,r4,r5⟩:=Vk (s:=s) (g:=d) a_ a_ (fun j hj=>by rw[←jR];exact R1 a_) rfl hlast (p.length+1-s) p.length k (aW p) (List.replicate (p.length+1) 0) a_ a_ FV FV (wG p) (fun j hj=>R1 a_) (fun j hj=>by simp[bF,Fp];split<;>rfl) a_
  refine⟨R,q',?_,a_,r2,by rw[r3,P_],fun x=>?_⟩
  ·unfold eC.f
   rw[CO a_ a_,hs,aJ,show((s+1:Nat):Int)-1=(s:Int) by omega,aQ a_,nc a_ a_,aJ,e1,aF a_,n_,gZ,YO]
   exact r5
  have:=r4 x
  rw[ic,zero_mul,add_zero,fG]at this
  rw[fG];exact this
 refine⟨aW p,List.replicate (p.length+1) 0,?_,a_,wG p,j_,fun x=>by rw[ic,zero_mul,zero_add,fG]⟩
 obtain⟨k,rfl⟩:∃m,k=m+1:=⟨k-1,a_⟩
 unfold eC.f
 rw[CO a_ a_,hs,aJ,show((s+1:Nat):Int)-1=(s:Int) by omega,aQ a_,nc a_ a_,aJ,e1,aF a_,n_,gZ,YO,eC.l0,aQ a_]
 unfold eC.j0
 rw[nc l_ l_];rfl
theorem XS{p d:List GF}{k:Nat}(hp:p.length<120)(hd:d.length<120)(hk:5000<k):∃q ok,Sq.f k (bi p) (bi d)=some (bi q,ok)∧q.length≤250∧∀P:List GF,P.length<120→aW d≠ []→(∀x,pv p x=pv P x*pv d x)→ok=true∧q=aW P:=by
 by_cases h:aW d=[]
 ·refine⟨[],false,?_,j_,fun P _ h2=>absurd h h2⟩
  unfold Sq.f eC.f
  rw[CO a_ a_,h,aJ,bh j_];rfl
 obtain⟨R,q,e,h1,h2,h3,h4⟩:=XU (p:=p) (d:=d) hp hd h hk
 have hq:=gP q
 have key:∀P:List GF,P.length<120→(∀x,pv p x=pv P x*pv d x)→R=[]∧aW q=aW P:=fun P hP hv=>by
  have hpos:=Bz.2 h
  obtain⟨s,hs⟩:∃s,(aW d).length=s+1:=⟨_,(Lm hpos).symm⟩
  have hle:=gP d
  have hlast:=pY h
  rw[hs,FK]at hlast
  obtain⟨t1,t2⟩:=N4 hs hlast (r:=R) (q:=q) (P:=P) a_ a_ a_ h4 fun x=>by rw[hv x,fG]
  exact⟨by rw[←h2];exact uX t1,t2⟩
 by_cases hR:0<R.length
 ·refine⟨[],false,?_,j_,fun P hP _ hv=>by rw[(key P hP hv).1]at hR;simp at hR⟩
  unfold Sq.f
  rw[e,aJ]
  simp only[ν,U_]
  rw[bh g_];rfl
 refine⟨aW q,true,?_,a_,fun P hP _ hv=>⟨rfl,(key P hP hv).2⟩⟩
 unfold Sq.f
 rw[e,aJ]
 simp only[ν,U_]
 rw[aQ g_]
theorem TV{N K B:Nat}(hN:N≤40){i:Nat}(hi:i<N)(xs vs:List Int):∀(d j k:Nat)(v:GF),j+d=N→
 1100<k→j6.l1 (k+d+1) ((N:Int),(K:Int),(B:Int)) xs vs (i:Int) (((pow al i).1:Nat):Int) ((v.1:Nat):Int) (j:Int)=j6.j0 (j6.l0 k) k ((N:Int),(K:Int),(B:Int)) xs vs (i:Int) (((pow al i).1:Nat):Int) (((v*lp (pow al i) ((bl al N).drop j)).1:Nat):Int)
 |0,j,k,v,hj,hk=>by
  rw[j6.l1,aQ rG,Θ (by rw[dI];omega),lp,mul_one]
 |d+1,j,k,v,hj,hk=>by
  have hjN:j<N:=a_
  have e:(bl al N).drop j=pow al j::(bl al N).drop (j+1):=by
   rw[δ (by rw[dI];exact hjN),←dG (by rw[dI];exact hjN),tZ al hjN]
  rw[show k+(d+1)+1=(k+d+1)+1 by omega,j6.l1,bh rG,bT a_,e,lp]
  by_cases h:j=i
  ·subst h
   rw[cH rfl,M_ rfl,one_mul]
   exact TV hN hi xs vs d (j+1) k v a_ hk
  have hne:¬pow al j=pow al i:=fun e0=>h (Sk hN j hjN i hi e0)
  rw[kg a_,Pp a_ a_,aJ,xor_val,qk a_,aJ,I_ hne,←mul_assoc]
  exact TV hN hi xs vs d (j+1) k _ a_ hk
theorem Vt{N K B:Nat}(hc:Cd N K B)(hN:N≤40):∀(d i k:Nat),i+d=N→3000+d*(N+3)<k→j6.l0 k ((N:Int),(K:Int),(B:Int)) (bi (bl al i)) (bi ((List.range i).map (wv al N B))) (i:Int)=some (bi (bl al N),bi (jy N B))
 |d,i,0,_,h=>a_
 |0,i,k+1,hi,hk=>by
  obtain rfl:i=N:=a_
  rw[j6.l0,aQ rG];rfl
 |d+1,i,k+1,hi,hk=>by
  have hiN:i<N:=a_
  have hmul:(d+1)*(N+3)=d*(N+3)+N+3:=O_
  obtain⟨k,rfl⟩:∃k',k=k'+N+1:=⟨k-N-1,a_⟩
  have hne:pow (pow al i) B*lp (pow al i) (bl al N)≠0:=mN (oh (oh qA i) B) (pU _ _)
  have h1:=TV (K:=K) (B:=B) hN hiN (bi (bl al i)) (bi ((List.range i).map (wv al N B))) N 0 k (pow (pow al i) B) a_ a_
  have ih:=Vt hc hN d (i+1) k a_ a_
  obtain⟨c1,c2,c3,c4⟩:=id hc
  rw[Γ]at h1
  rw[j6.l0,bh rG]
  simp only
  rw[xv hc,aJ,bh rfl,Pp a_ a_,aJ,Tp _ a_ a_,aJ]
  refine h1.trans ?_
  unfold j6.j0
  rw[aF (by rw[YO,dI];simp only[r_,N_];omega),show(1:Int)=(((1:GF).1:Nat):Int) from rfl,Tn _ hne a_,aJ,one_mul,aF Nq,show(((1:GF).1:Nat):Int)=1 from rfl,bT a_,←ih]
  congr 1
  ·simp[bl,bi,EW]
  simp[bi,EW,wv]
theorem Vu{N K B k:Nat}(hc:Cd N K B)(hN:N≤40)(hk:9000<k):j6.f k ((N:Int),(K:Int),(B:Int))=some (bi (bl al N),bi (jy N B)):=by
 have hb:N*(N+3)≤40*43:=Φ hN a_
 exact Vt hc hN N 0 k a_ a_
theorem Vw{N B:Nat}{p:List GF}(hp:p.length<900)(hN:N≤40):∀(d i k:Nat),i+d=N→2400+d<k→RY.l0 k (bi p) (bi (bl al N),bi (jy N B)) (bi ((List.range i).map fun i=>wv al N B i*pv p (pow al i))) (i:Int)=some (bi ((List.range N).map fun i=>wv al N B i*pv p (pow al i)))
 |d,i,0,_,h=>a_
 |0,i,k+1,hi,hk=>by
  obtain rfl:i=N:=a_
  rw[RY.l0,aQ (by simp only;rw[YO,dI];omega)]
 |d+1,i,k+1,hi,hk=>by
  have hiN:i<N:=a_
  rw[RY.l0]
  simp only
  rw[bh Ls,aF (by rw[YO,qq];omega),aF Ls,cI,cI,tZ al hiN,QL hiN,TO a_ a_,aJ,qk a_,aJ,aF Nq,bT a_,←Vw hp hN d (i+1) k a_ a_]
  congr 1;simp[bi,EW]
theorem X3{N K B k:Nat}{p:List GF}(hc:Cd N K B)(hN:N≤40)(hp:p.length<900)(hk:10000<k):RY.f k ((N:Int),(K:Int),(B:Int)) (bi p)=some (bi ((List.range N).map fun i=>wv al N B i*pv p (pow al i))):=by
 unfold RY.f
 simp only
 rw[Vu hc hN a_,aJ]
 exact Vw hp hN N 0 k a_ a_
theorem Vo{xs:List GF}(hn:xs.Nodup)(hx:xs.length<300){x:Nat}(hxl:x<xs.length):∀(d j k:Nat),j+d=x→Rt.l1 (k+d+1) (bi xs) (x:Int) (j:Int)=Rt.l0 k (bi xs) ((x+1:Nat):Int)
 |0,j,k,hj=>by rw[Rt.l1,aQ a_,bT a_]
 |d+1,j,k,hj=>by
  have hne:¬xs.getD x 0=xs.getD j 0:=fun e=>by
   rw[dG hxl,dG (show j<xs.length by omega)]at e
   exact Ω.1 (Cf.1 hn) j x a_ hxl a_ e.symm
  rw[show k+(d+1)+1=(k+d+1)+1 by omega,Rt.l1,bh a_,aF g_,aF g_,cI,cI,aQ (fun e=>hne (Sw.1 e)),bT a_]
  exact Vo hn hx hxl d (j+1) k a_
theorem Vn{xs:List GF}(hn:xs.Nodup)(hx:xs.length<300):∀(d x k:Nat),x+d=xs.length→d*(xs.length+3)<k→Rt.l0 k (bi xs) (x:Int)=some true
 |d,x,0,_,h=>a_
 |0,x,k+1,hx2,hk=>by rw[Rt.l0,aQ g_]
 |d+1,x,k+1,hx2,hk=>by
  have hmul:(d+1)*(xs.length+3)=d*(xs.length+3)+xs.length+3:=O_
  obtain⟨k,rfl⟩:∃k',k=k'+x+1:=⟨k-x-1,a_⟩
  rw[Rt.l0,bh g_,show(0:Int)=((0:Nat):Int) from rfl,Vo hn hx a_ x 0 k a_]
  exact Vn hn hx d (x+1) k a_ a_
theorem TY{p xs:List GF}(y:GF→GF)(hp:p.length<900)(hx:xs.length<900):∀(d i k c:Nat),i+d=xs.length→2400+d<k→c+d<100000→
 RZ.l0 k (bi p) (bi xs) (bi (xs.map y)) (c:Int) (i:Int)=some ((c+gU y p (xs.drop i):Nat):Int)
 |d,_,0,_,_,h,_=>a_
 |0,i,k+1,c,hi,hk,hc=>by
  rw[RZ.l0,aQ g_,Θ a_];rfl
 |d+1,i,k+1,c,hi,hk,hc=>by
  have hix:i<xs.length:=a_
  have e:xs.drop i=xs.getD i 0::xs.drop (i+1):=aaX
  have hy:(xs.map y).getD i 0=y (xs.getD i 0):=by simp[bF,hix]
  rw[RZ.l0,bh g_,bh EM,aF g_,aF EM,cI,TO a_ a_,aJ,cI,hy,e,bT a_,bT a_]
  by_cases h:pv p (xs.getD i 0)=y (xs.getD i 0)
  ·rw[cH (by rw[h]),TY y hp hx d (i+1) k c a_ a_ a_,Ql _ h]
  have hne:¬(((pv p (xs.getD i 0)).1:Nat):Int)=(((y (xs.getD i 0)).1:Nat):Int):=fun e=>h (GF.ext a_)
  rw[kg hne,TY y hp hx d (i+1) k (c+1) a_ a_ a_,Qm _ h]
  congr 2;omega
theorem X6{p xs:List GF}(y:GF→GF){k:Nat}(hp:p.length<900)(hx:xs.length<900)(hk:4000<k):RZ.f k (bi p) (bi xs) (bi (xs.map y))=some ((gU y p xs:Nat):Int):=by
 have:=TY y hp hx xs.length 0 k 0 a_ a_ a_
 rw[Γ,FW]at this
 exact this
theorem Vh{K t:Nat}{y:GF→GF}{xs acc:List GF}{i:Nat}(hi:i<xs.length)(hb:xs.length<100)(ht:t<100)(ha:acc.length<10000):∀(d j k:Nat),j+d=t+1→1100<k→
 gB.l2 (k+d+1) (bi xs) (bi (xs.map y)) (K:Int) (t:Int) (i:Int) (bi (acc++(iV (xs.getD i 0) j).map (y (xs.getD i 0)* ·))) (j:Int)=gB.l0 k (bi xs) (bi (xs.map y)) (K:Int) (t:Int) (bi (acc++(iV (xs.getD i 0) (t+1)).map (y (xs.getD i 0)* ·))) ((i+1:Nat):Int)
 |0,j,k,hj,hk=>by
  obtain rfl:j=t+1:=a_
  rw[gB.l2,aQ a_,bT a_]
 |d+1,j,k,hj,hk=>by
  have hy:(xs.map y).getD i 0=y (xs.getD i 0):=aaj
  rw[show k+(d+1)+1=(k+d+1)+1 by omega,gB.l2,bh a_,aF EM,aF g_,cI,cI,hy,Tp _ a_ a_,aJ,qk a_,aJ,aF (by rw[YO,E_,x_,lM];simp only[r_,N_];omega),bT a_,←Vh hi hb ht ha d (j+1) k a_ hk]
  congr 1;simp[iV,bi,EW]
theorem Vg{K t:Nat}{y:GF→GF}{xs acc:List GF}{i:Nat}(hi:i<xs.length)(hb:xs.length<100)(ht:t<100)(hK:K<100)(ha:acc.length<9000):∀(d j k:Nat),j+d=K+t→1300<k→
 gB.l1 (k+(t+1)+1+d+1) (bi xs) (bi (xs.map y)) (K:Int) (t:Int) (i:Int) (bi (acc++iV (xs.getD i 0) j)) (j:Int)=gB.l0 k (bi xs) (bi (xs.map y)) (K:Int) (t:Int) (bi (acc++nf K t (xs.getD i 0) (y (xs.getD i 0)))) ((i+1:Nat):Int)
 |0,j,k,hj,hk=>by
  have wa:I U ((K:Int)+(t:Int))=((K+t:Nat):Int):=by rw[ca a_ a_];omega
  obtain rfl:j=K+t:=a_
  have:=Vh (K:=K) (t:=t) (y:=y) (acc:=acc++iV (xs.getD i 0) (K+t)) hi hb ht (by rw[E_,lM];omega) (t+1) 0 k a_ a_
  rw[show iV (xs.getD i 0) 0=[] from rfl,rW,fQ,DX]at this
  rw[gB.l1,wa,aQ a_]
  unfold gB.j0
  exact this
 |d+1,j,k,hj,hk=>by
  have wa:I U ((K:Int)+(t:Int))=((K+t:Nat):Int):=by rw[ca a_ a_];omega
  rw[show k+(t+1)+1+(d+1)+1=(k+(t+1)+1+d+1)+1 by omega,gB.l1,wa,bh a_,aF g_,cI,Tp _ a_ a_,aJ,aF (by rw[YO,E_,lM];simp only[r_,N_];omega),bT a_,←Vg hi hb ht hK ha d (j+1) k a_ hk]
  congr 1;simp[iV,bi,EW]
theorem Vf{K t:Nat}(y:GF→GF){xs:List GF}(hb:xs.length≤40)(ht:t<40)(hK:K≤40):∀(d i k:Nat),i+d=xs.length→2000+d*(K+2*t+6)<k→
 gB.l0 k (bi xs) (bi (xs.map y)) (K:Int) (t:Int) (bi (iv K t y (xs.take i)).flatten) (i:Int)=some ((xs.length:Int),((K+t+(t+1):Nat):Int),bi (iv K t y xs).flatten)
 |d,i,0,_,h=>a_
 |0,i,k+1,hi,hk=>by
  have wa:I U (I U ((K:Int)+I U (2*(t:Int)))+1)=((K+t+(t+1):Nat):Int):=by
   rw[ca (x:=2*(t:Int)) a_ a_,ca (x:=(K:Int)+2*(t:Int)) a_ a_,ca a_ a_];omega
  rw[gB.l0,aQ g_,D_ a_,YO,wa]
 |d+1,i,k+1,hi,hk=>by
  have hix:i<xs.length:=a_
  have hmul:(d+1)*(K+2*t+6)=d*(K+2*t+6)+K+2*t+6:=O_
  have hfl:(iv K t y (xs.take i)).flatten.length≤40*121:=by
   rw[sY _ (Po K t y (xs.take i)).row,(Po K t y (xs.take i)).len]
   exact Φ IK a_
  obtain⟨k,rfl⟩:∃k',k=k'+(t+1)+1+(K+t)+1:=⟨k-(t+1)-1-(K+t)-1,a_⟩
  have h1:=Vg (K:=K) (t:=t) (y:=y) (acc:=(iv K t y (xs.take i)).flatten) hix a_ a_ a_ a_ (K+t) 0 k a_ a_
  rw[show iV (xs.getD i 0) 0=[] from rfl,fQ]at h1
  rw[gB.l0,bh g_]
  refine h1.trans ?_
  rw[←Vf y hb ht hK d (i+1) k a_ a_]
  congr 2
  rw[y_ hix,dG hix]
  unfold iv
  rw[Fg,YT]
  simp
theorem Ve(c:GF)(p:List GF)(hp:p.length<1000):∀(d i k:Nat),i+d=p.length→1000+d<k→
 R3.l0 k ((c.1:Nat):Int) (bi p) (bi ((p.take i).map (c* ·))) (i:Int)=some (bi (p.map (c* ·)))
 |d,i,0,_,h=>a_
 |0,i,k+1,hd,hk=>by
  rw[R3.l0,aQ g_,D_ a_]
 |d+1,i,k+1,hd,hk=>by
  have hi:i<p.length:=a_
  rw[R3.l0,bh g_,aF g_,cI,qk a_,aJ,aF EN,bT a_]
  have e:bi ((p.take i).map (c* ·))++[(((c*p.getD i 0).1:Nat):Int)]=bi ((p.take (i+1)).map (c* ·)):=by
   rw[y_ hi,dG hi,Fg,gb];rfl
  rw[e]
  exact Ve c p hp d (i+1) k a_ a_
theorem XJ{c:GF}{p:List GF}{k:Nat}(hp:p.length<1000)(hk:2000<k):R3.f k ((c.1:Nat):Int) (bi p)=some (bi (p.map (c* ·))):=Ve c p hp p.length 0 k a_ a_
theorem Vs(c:GF)(p q:List GF)(hp:p.length<1000)(hq:q.length=p.length):∀(d i k:Nat),i+d=p.length→1000+d<k→
 R8.l0 k (bi p) ((c.1:Nat):Int) (bi q) (bi ((List.zipWith (·+ ·) p (q.map (c* ·))).take i)) (i:Int)=some (bi (List.zipWith (·+ ·) p (q.map (c* ·))))
 |d,i,0,_,h=>a_
 |0,i,k+1,hd,hk=>by
  rw[R8.l0,aQ g_,D_ l_]
 |d+1,i,k+1,hd,hk=>by
  have hi:i<p.length:=a_
  have hi2:i<(List.zipWith (·+ ·) p (q.map (c* ·))).length:=l_
  have e:bi ((List.zipWith (·+ ·) p (q.map (c* ·))).take i)++[(((p.getD i 0+c*q.getD i 0).1:Nat):Int)]=bi ((List.zipWith (·+ ·) p (q.map (c* ·))).take (i+1)):=by
   rw[y_ hi2,gb,LM,Fj,dG hi,dG (by omega:i<q.length)];rfl
  rw[R8.l0,bh g_,aF g_,aF g_,cI,cI,qk a_,aJ,xor_val,aF EN,bT a_,e]
  exact Vs c p q hp hq d (i+1) k a_ a_
theorem X1{c:GF}{p q:List GF}{k:Nat}(hp:p.length<1000)(hq:q.length=p.length)(hk:2000<k):R8.f k (bi p) ((c.1:Nat):Int) (bi q)=some (bi (List.zipWith (·+ ·) p (q.map (c* ·)))):=Vs c p q hp hq p.length 0 k a_ a_
theorem Sy{M:List (List GF)}{i:Nat}(h:i<M.length):at_ [] (M.map bi) (i:Int)=bi (bE M i):=by simp[at_,bE,bF,h]
theorem TF(M:List (List GF))(i:Nat)(r:List GF):(M.map bi).set i (bi r)=(M.set i r).map bi:=by rw[List.map_set]
theorem Ru(M:List (List GF)):(M.map bi).length=M.length:=x_ _
theorem XW{R C:Nat}{l:List GF}(hR:R≤300)(hC:C≤300)(hl:l.length=R*C):SB.f ((R:Int),(C:Int),bi l)=some true:=by
 unfold SB.f
 simp only[]
 rw[bh a_,bh a_,bh a_,bh a_,wM a_ hC,YO,hl,W_ rfl]
section
variable{R C:Nat}{cs:List Int}{M:List (List GF)}{L:List Nat}
theorem Vb(hR:R≤300)(hC:C≤300)(h:Mx R C M)(cs':List Int):∀(d i k:Nat),i+d=R→
 ax.l0 (k+d+1) ((R:Int),(C:Int),cs) ((M.take i).map bi) cs' (bi M.flatten) (i:Int)=ax.l1 k ((R:Int),(C:Int),cs) (M.map bi) [] 0
 |0,i,k,hi=>by
  rw[ax.l0,aQ iU,D_ P5];rfl
 |d+1,i,k,hi=>by
  have hiR:i<R:=a_
  have hle:(i+1)*C≤R*C:=BF C a_
  have hmul:(i+1)*C=i*C+C:=O_
  have hM':i<M.length:=NG
  rw[show k+(d+1)+1=(k+d+1)+1 by omega,ax.l0]
  simp only[]
  rw[bh a_,wM a_ hC,bT a_,wM a_ hC,aF Fb,aF (by rw[Ru,ζ];omega),ki h hiR]
  have e:(M.take i).map bi++[bi (bE M i)]=(M.take (i+1)).map bi:=by
   rw[y_ hM',Fg]
   simp[bE,bF,hM']
  rw[e]
  exact Vb hR hC h cs' d (i+1) k a_
theorem TQ(hR:R≤300)(hC:C≤300)(h:Mx R C M){col:Nat}(hcol:col<C):∀(d k:Nat)(f:Int),L.length+d≤R→(f= -1∧(∀a,L.length+d≤a→a<R→(bE M a).getD col 0=0)∨∃i:Nat,f=i∧L.length+d≤i∧i<R∧(bE M i).getD col 0≠0)→
 ∃f':Int,(f'= -1∧(∀a,L.length≤a→a<R→(bE M a).getD col 0=0)∨∃i:Nat,f'=i∧L.length≤i∧i<R∧(bE M i).getD col 0≠0)∧
  ax.l2 (k+d+1) ((R:Int),(C:Int),cs) (M.map bi) (ints L) (col:Int) f ((L.length:Int)+(d:Int)-1)=ax.j1 (ax.l1 k) (ax.l3 k) k ((R:Int),(C:Int),cs) (M.map bi) (ints L) (col:Int) f'
 |0,k,f,hd,hf=>by
  refine⟨f,by simpa using hf,?_⟩
  rw[ax.l2,aQ G_]
 |d+1,k,f,hd,hf=>by
  have hiR:L.length+d<R:=a_
  have hl:=h.at hiR
  have e1:(L.length:Int)+((d+1:Nat):Int)-1=((L.length+d:Nat):Int):=a_
  have e2:I U (((L.length+d:Nat):Int)-1)=(L.length:Int)+(d:Int)-1:=by rw[ca a_ a_];omega
  by_cases h0:(bE M (L.length+d)).getD col 0=0
  ·obtain⟨f',q1,q2⟩:=TQ hR hC h hcol d k f a_ (by
    rcases hf with⟨a,b⟩|⟨i,a,b,c⟩
    ·refine .inl ⟨a,fun x hx hxR=>?_⟩
     by_cases e:x=L.length+d
     ·rw[e];exact h0
     exact b x a_ hxR
    exact .inr ⟨i,a,a_,c⟩)
   refine⟨f',q1,?_⟩
   rw[show k+(d+1)+1=(k+d+1)+1 by omega,ax.l2,e1,bh G_,aF kL,Sy NG,aF aao,cI,h0,cH EJ,e2]
   exact q2
  obtain⟨f',q1,q2⟩:=TQ hR hC h hcol d k ((L.length+d:Nat):Int) a_ (.inr ⟨L.length+d,rfl,a_,hiR,h0⟩)
  have hne:¬((((bE M (L.length+d)).getD col 0).1:Nat):Int)=0:=fun e=>h0 (GF.ext (by simpa using e))
  refine⟨f',q1,?_⟩
  rw[show k+(d+1)+1=(k+d+1)+1 by omega,ax.l2,e1,bh G_,aF kL,Sy NG,aF aao,cI,kg hne,e2]
  exact q2
theorem TR(hR:R≤300)(hC:C≤300)(hLR:L.length<R){col:Nat}(hcol:col<C){rn:List GF}(hrn:rn.length=C):∀(d a k:Nat)(M:List (List GF)),a+d=R→Mx R C M→2000<k→
 ∃M':List (List GF),Mx R C M'∧(∀i<R,bE M' i=if a≤i then jG L.length col rn i (bE M i)else bE M i)∧
  ax.l3 (k+d+1) ((R:Int),(C:Int),cs) (ints L) (col:Int) (bi rn) (M.map bi) (a:Int)=ax.l1 k ((R:Int),(C:Int),cs) (M'.map bi) (ints (L++[col])) ((col+1:Nat):Int)
 |0,a,k,M,ha,h,hk=>by
  refine⟨M,h,fun i hi=>by rw[I_ a_],?_⟩
  rw[ax.l3,aQ kL,aF (by rw[iQ];simp;omega),bT a_,show ints L++[(col:Int)]=ints (L++[col]) by simp[ints]]
 |d+1,a,k,M,ha,h,hk=>by
  have haR:a<R:=a_
  have hl:=h.at haR
  by_cases e:a=L.length
  ·obtain⟨M',q1,q2,q3⟩:=TR hR hC hLR hcol hrn d (a+1) k M a_ h hk
   refine⟨M',q1,fun i hi=>?_,?_⟩
   ·rw[q2 i hi]
    by_cases ei:i=a
    ·rw[I_ a_,M_ a_,ei];unfold jG;rw[M_ e]
    by_cases e2:a≤i
    ·rw[M_ a_,M_ e2]
    rw[I_ a_,I_ e2]
   rw[show k+(d+1)+1=(k+d+1)+1 by omega,ax.l3,bh kL,cH G_,bT a_]
   exact q3
  have hzl:(List.zipWith (·+ ·) (bE M a) (rn.map ((bE M a).getD col 0* ·))).length=C:=by rw[si _ _ (by rw[x_,hl,hrn]),hl]
  obtain⟨M',q1,q2,q3⟩:=TR hR hC hLR hcol hrn d (a+1) k _ a_ (h.set a hzl) hk
  refine⟨M',q1,fun i hi=>?_,?_⟩
  ·rw[q2 i hi,h.lT haR]
   by_cases ei:i=a
   ·rw[I_ a_,M_ ei,M_ a_,ei];unfold jG;rw[I_ e]
   rw[I_ ei]
   by_cases e2:a≤i
   ·rw[M_ a_,M_ e2]
   rw[I_ a_,I_ e2]
  rw[show k+(d+1)+1=(k+d+1)+1 by omega,ax.l3,bh kL,kg G_,aF kL,aF kL,Sy (by rw[h.len];exact haR),aF aao,cI,X1 a_ a_ a_,aJ,aF kL,n_,TF,bT a_]
  exact q3
theorem Vd(hR:R≤300)(hC:C≤300)(h:Mx R C M):∀(d i k:Nat),i+d=R→d<k→
 ax.l4 k ((R:Int),(C:Int),cs) (M.map bi) (ints L) (bi (M.take i).flatten) (i:Int)=some (((R:Int),(C:Int),bi M.flatten),ints L)
 |d,i,0,_,h=>a_
 |0,i,k+1,hi,hk=>by
  rw[ax.l4,aQ kL,D_ P5]
 |d+1,i,k+1,hi,hk=>by
  have hiR:i<R:=a_
  have hM':i<M.length:=NG
  have hb:i*C≤300*300:=Φ a_ hC
  have hf:(M.take i).flatten.length=i*C:=by
   rw[sY _ fun r hr=>h.row r (LK hr),ζ,h.len,Nl a_]
  rw[ax.l4,bh kL,aF kL,Sy hM',aF (by rw[YO,YO,hf,h.at hiR];omega),bT a_,←gb]
  have e:(M.take i).flatten++bE M i=(M.take (i+1)).flatten:=by
   rw[y_ hM',YT]
   simp[bE,bF,hM']
  rw[e]
  exact Vd hR hC h d (i+1) k a_ a_
def SH(L:List Nat):Prop:=∀a b,a<b→b<L.length→L.getD a 0<L.getD b 0
theorem WH{j:Nat}(h:SH L)(hl:∀a<L.length,L.getD a 0<j):SH (L++[j]):=fun a b hab hb=>by
 simp at hb
 rw[show(L++[j]).getD a 0=L.getD a 0 by simp[bF,ξ (show a<L.length by omega)]]
 by_cases e:b<L.length
 ·rw[show(L++[j]).getD b 0=L.getD b 0 by simp[bF,ξ e]];exact h a b hab e
 rw[show(L++[j]).getD b 0=j by simp[bF,show b=L.length by omega]];exact hl a a_
theorem TP(hR:R≤300)(hC:C≤300):∀(d j k:Nat)(M:List (List GF))(L:List Nat),j+d=C→Mx R C M→gE R C M L j→SH L→4000+d*(2*R+3)<k→
 ∃(M':List (List GF))(L':List Nat),ax.l1 k ((R:Int),(C:Int),cs) (M.map bi) (ints L) (j:Int)=some (((R:Int),(C:Int),bi M'.flatten),ints L')∧Mx R C M'∧gE R C M' L' C∧SH L'∧∀z,iz R M' z↔iz R M z
 |d,_,0,_,_,_,_,_,_,h=>a_
 |0,j,k+1,M,L,hj,h,hr,hi,hk=>by
  obtain rfl:j=C:=a_
  refine⟨M,L,?_,h,hr,hi,fun z=>Iff.rfl⟩
  have:=Vd (cs:=cs) (L:=L) hR hC h R 0 k a_ a_
  rw[bP]at this
  rw[ax.l1,aQ iU]
  exact this
 |d+1,j,k+1,M,L,hj,h,hr,hi,hk=>by
  have hfuel:(d+1)*(2*R+3)=d*(2*R+3)+(2*R+3):=O_
  have hLR:=hr.few
  have hjC:j<C:=a_
  obtain⟨d2,hd2⟩:∃d2,L.length+d2=R:=⟨R-L.length,a_⟩
  obtain⟨k1,rfl⟩:∃k1,k=k1+d2+1:=⟨k-(d2)-1,a_⟩
  obtain⟨f,f1,f2⟩:=TQ (cs:=cs) (L:=L) hR hC h hjC (d2) k1 (-1) a_ (.inl ⟨rfl,fun a ha hb=>a_⟩)
  have e0:I U (((M.map bi).length:Int)-1)=(L.length:Int)+((d2:Nat):Int)-1:=by rw[Ru,h.len,ca a_ a_];omega
  have hstart:ax.l1 (k1+d2+1+1) ((R:Int),(C:Int),cs) (M.map bi) (ints L) (j:Int)=ax.j1 (ax.l1 k1) (ax.l3 k1) k1 ((R:Int),(C:Int),cs) (M.map bi) (ints L) (j:Int) f:=by
   rw[ax.l1,bh iU,e0];exact f2
  rcases f1 with⟨rfl,g⟩|⟨i,rfl,g1,g2,g3⟩
  ·obtain⟨M',L',q1,q2,q3,q4,q5⟩:=TP hR hC d (j+1) k1 M L a_ h (O4 hr fun a ha hl=>g a hl ha) hi a_
   refine⟨M',L',?_,q2,q3,q4,q5⟩
   rw[hstart];unfold ax.j1
   rw[bh a_,bT a_];exact q1
  have hl:=h.at g2
  have hnR:L.length<R:=a_
  obtain⟨rn,hrn⟩:∃rn,rn=(bE M i).map (inv ((bE M i).getD j 0)* ·):=⟨_,rfl⟩
  have hrnl:rn.length=C:=by rw[hrn,x_];exact hl
  have x1:Mx R C (M.set i (bE M L.length)):=h.set i (h.at hnR)
  have x2:Mx R C ((M.set i (bE M L.length)).set L.length rn):=x1.set L.length hrnl
  obtain⟨k2,hk2⟩:∃k2,k1=k2+R+1:=⟨k1-R-1,a_⟩
  obtain⟨M2,q1,q2,q3⟩:=TR (cs:=cs) (L:=L) hR hC hnR hjC hrnl R 0 k2 _ a_ x2 a_
  obtain⟨r1,r2⟩:=O3 (m':=M2) hr hjC g2 g1 g3 q1.len fun a ha=>by
   rw[q2 a ha,M_ (jc _),x1.lT hnR,h.lT g2,←hrn]
  obtain⟨M',L',s1,s2,s3,s4,s5⟩:=TP hR hC d (j+1) k2 M2 (L++[j]) a_ q1 r1 (WH hi hr.lt) a_
  refine⟨M',L',?_,s2,s3,s4,fun z=>(s5 z).trans (r2 z)⟩
  rw[hstart];unfold ax.j1
  rw[aQ a_,aF kL,Sy (by rw[h.len];exact g2),aF aao,aF kL,cI,show(1:Int)=(((1:GF).1:Nat):Int) from rfl,Tn _ g3 a_,aJ,one_mul,XJ a_ a_,aJ,iQ,Sy (by rw[h.len];exact hnR),aF kL,aF kL,n_,n_,TF,←hrn,TF,aF (by rw[Ru,x1.len];omega)]
  rw[hk2,show(0:Int)=((0:Nat):Int) from rfl,q3]
  exact s1
theorem XK(hR:R≤300)(hC:C≤300)(h:Mx R C M){k:Nat}(hk:5000+R+C*(2*R+3)<k):
 ∃(M':List (List GF))(L':List Nat),ax.f k ((R:Int),(C:Int),bi M.flatten)=some (((R:Int),(C:Int),bi M'.flatten),ints L')∧Mx R C M'∧gE R C M' L' C∧SH L'∧∀z,iz R M' z↔iz R M z:=by
 obtain⟨k,rfl⟩:∃k',k=k'+R+1:=⟨k-R-1,a_⟩
 obtain⟨M',L',e1,e2⟩:=TP (cs:=bi M.flatten) hR hC C 0 k M [] a_ h (O6 h) (fun a b _ hb=>absurd hb (ET _)) a_
 refine⟨M',L',?_,e2⟩
 unfold ax.f
 simp only[]
 rw[XW hR hC h.iO,aJ]
 simp only[ν,U_]
 have:=Vb (cs:=bi M.flatten) hR hC h (bi M.flatten) R 0 k a_
 rw[bP]at this
 exact this.trans e1
theorem Vq(hR:R≤300)(hC:C≤300)(h:Mx R C M)(hr:gE R C M L C){j:Nat}(hj:j<C)(acc:List (List Int))(hacc:acc.length<1000)(p:Int):∀(d i k:Nat),i+d=L.length→
 gC.l1 (k+d+1) (((R:Int),(C:Int),bi M.flatten),ints L) acc p (j:Int) (bi (nv M L C j i)) (i:Int)=gC.l0 k (((R:Int),(C:Int),bi M.flatten),ints L) (acc++[bi (nv M L C j L.length)]) p ((j+1:Nat):Int)
 |0,i,k,hi=>by
  obtain rfl:i=L.length:=a_
  rw[gC.l1,aQ Gs,aF a_,bT a_]
 |d+1,i,k,hi=>by
  have hiL:i<L.length:=a_
  have hLR:=hr.few
  have hlt:=hr.lt i hiL
  have hle:(i+1)*C≤R*C:=BF C a_
  have hmul:(i+1)*C=i*C+C:=O_
  have hb:R*C≤300*300:=Φ hR hC
  have hg:M.flatten.getD (i*C+j) 0=(bE M i).getD j 0:=by
   have:=vH M i h.row P5
   rw[←this]
   simp only[bF,IE,Ac]
   rw[M_ a_]
  rw[show k+(d+1)+1=(k+d+1)+1 by omega,gC.l1]
  simp only[]
  rw[bh G_,aF G_,wM a_ hC,show((i*C:Nat):Int)+(j:Int)=((i*C+j:Nat):Int) by omega,iB a_,aF Fb,ints_at hiL,aF (by rw[YO,rI];omega),cI,hg,n_,gY,bT a_]
  exact Vq hR hC h hr hj acc hacc p d (i+1) k a_
theorem TU(hR:R≤300)(hC:C≤300)(h:Mx R C M)(hr:gE R C M L C)(hinc:SH L):∀(d j k p:Nat)(acc:List (List Int)),j+d=C→2000+d*(R+3)<k→acc.length+d<1000→p≤L.length→(∀a<p,L.getD a 0<j)→(∀a,p≤a→a<L.length→j≤L.getD a 0)→
 ∃fs:List Nat,gC.l0 k (((R:Int),(C:Int),bi M.flatten),ints L) acc (p:Int) (j:Int)=some (acc++fs.map fun f=>bi (nv M L C f L.length))∧fs.length≤d∧(∀f∈fs,f<C∧∀a<L.length,L.getD a 0≠f)∧(∀f,j≤f→f<C→(∀a<L.length,L.getD a 0≠f)→f∈fs)
 |d,_,0,_,_,_,h,_,_,_,_=>a_
 |0,j,k+1,p,acc,hj,hk,ha,hp,h1,h2=>by
  refine⟨[],?_,j_,j_,fun f h1 h2 _=>a_⟩
  rw[gC.l0,aQ iU];simp
 |d+1,j,k+1,p,acc,hj,hk,ha,hp,hlo,hhi=>by
  have hjC:j<C:=a_
  have hLR:=hr.few
  have hfuel:(d+1)*(R+3)=d*(R+3)+R+3:=O_
  by_cases hd:p<L.length∧L.getD p 0=j
  ·obtain⟨hd1,hd2⟩:=hd
   obtain⟨fs,f1,f0,f2,f3⟩:=TU hR hC h hr hinc d (j+1) k (p+1) acc a_ a_ a_ a_ (fun a hap=>by
    by_cases e:a=p
    ·rw[e];omega
    have:=hlo a a_;omega) (fun a hpa haL=>by have:=hinc p a a_ haL;omega)
   refine⟨fs,?_,a_,f2,fun f h1 h2 h3=>?_⟩
   ·rw[gC.l0,bh iU,bh Gs,aF Gs]
    simp only[]
    rw[ints_at hd1,bh a_,bT a_,bT a_]
    exact f1
   by_cases ef:f=j
   ·exact absurd (hd2.trans ef.symm) (h3 p hd1)
   exact f3 f a_ h2 h3
  have hfree:∀a<L.length,L.getD a 0≠j:=fun a haL e=>by
   by_cases hap:a<p
   ·have:=hlo a hap;omega
   have h1:=hhi p (aI _) a_
   by_cases e2:a=p
   ·exact hd ⟨a_,by rw[←e2];exact e⟩
   have:=hinc p a a_ haL;omega
  obtain⟨k2,hk2⟩:∃k2,k=k2+L.length+1:=⟨k-L.length-1,a_⟩
  obtain⟨fs,f1,f0,f2,f3⟩:=TU hR hC h hr hinc d (j+1) k2 p (acc++[bi (nv M L C j L.length)]) a_ a_ l_ hp (fun a hap=>by have:=hlo a hap;omega) (fun a hpa haL=>by have:=hhi a hpa haL;have:=hfree a haL;omega)
  refine⟨j::fs,?_,l_,fun f hf=>?_,fun f h1 h2 h3=>?_⟩
  ·have e1:(bi (List.replicate C 0)).set j 1=bi (nv M L C j 0):=by rw[nv,←gY];rfl
   have hj0:gC.j0 (gC.l1 k) k (((R:Int),(C:Int),bi M.flatten),ints L) acc (p:Int) (j:Int)=some (acc++(j::fs).map fun f=>bi (nv M L C f L.length)):=by
    unfold gC.j0
    simp only[]
    rw[aF a_,aF l_,n_,n_,gZ]
    have:=Vq hR hC h hr hjC acc a_ (p:Int) L.length 0 k2 a_
    rw[e1,hk2,show(0:Int)=((0:Nat):Int) from rfl,this,f1]
    simp
   rw[gC.l0,bh iU]
   by_cases hpL:p<L.length
   ·rw[bh Gs,aF Gs]
    simp only[]
    rw[ints_at hpL,aQ (fun e=>hd ⟨hpL,a_⟩)]
    exact hj0
   rw[aQ Gs]
   exact hj0
  ·rcases X_.1 hf with rfl|hf
   ·exact⟨hjC,hfree⟩
   exact f2 f hf
  by_cases ef:f=j
  ·rw[ef];exact H_
  exact o_ _ (f3 f a_ h2 h3)
theorem X0(hR:R≤300)(hC:C≤300)(h:Mx R C M){k:Nat}(hk:10000+2*R+C*(2*R+3)+C*(R+3)<k):
 ∃Z:List (List GF),gC.f k ((R:Int),(C:Int),bi M.flatten)=some (Z.map bi)∧Z.length≤C∧(∀z∈Z,z.length=C∧iz R M z∧∃c,c<z.length∧z.getD c 0≠0)∧((∃z:List GF,z.length=C∧iz R M z∧∃c,c<C∧z.getD c 0≠0)→Z≠ []):=by
 obtain⟨M',L,e1,e2,e3,e5,e4⟩:=XK hR hC h (k:=k) a_
 obtain⟨fs,f1,f0,f2,f3⟩:=TU hR hC e2 e3 e5 C 0 k 0 [] a_ a_ l_ (jc _) (fun a ha=>absurd ha (ET _)) (fun a _ _=>jc _)
 refine⟨fs.map fun f=>nv M' L C f L.length,?_,l_,fun z hz=>?_,fun⟨z,z1,z2,c,c1,c2⟩ e0=>?_⟩
 ·unfold gC.f
  simp only[]
  rw[e1,aJ,show(0:Int)=((0:Nat):Int) from rfl,f1]
  simp
 ·obtain⟨f,hf,rfl⟩:=uV.1 hz
  obtain⟨g1,g2⟩:=f2 f hf
  exact⟨rI _ _ _ _ _,(e4 _).1 (ME e3 g1 g2),f,by rw[rI];exact g1,aa7⟩
 obtain⟨j,hj,hfree⟩:=IT e3 z1 ((e4 z).2 z2) c c1 c2
 have hm:=f3 j (jc _) hj hfree
 rw[List.map_eq_nil_iff.1 e0]at hm
 simp at hm
end
end Go.Proofs.YtmhkpafkadijgaaGreatDoor.Gw
