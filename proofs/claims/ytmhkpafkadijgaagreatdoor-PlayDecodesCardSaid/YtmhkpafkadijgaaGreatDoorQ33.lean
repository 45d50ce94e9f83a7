/- A part of the proof of Rows.PlayDecodesCardSaid; the conditions are that card's own. -/
import Derived.Test.YtmhkpafkadijgaaGreatDoorQ32
import Derived.Test.YtmhkpafkadijgaaGreatDoorQ20
set_option linter.all false
namespace Go.Proofs.YtmhkpafkadijgaaGreatDoor.Gw
open Go.IntKind renaming wrap→I,i64→W
open Go Go.RowKit GF
theorem vF(A:List GF)(i d:Nat)(v:GF)(h:A.length=i):(A++List.replicate (d+1) 0).set i v=(A++[v])++List.replicate d 0:=by
 rw[DZ _ _ a_,h,Ff,FU,FM,DX];rfl
theorem Ak(a:GF){n:Nat}(h:n<4611686018427387904):jK.f ((a.1:Nat):Int) (n:Int)=some (((pow a n).1:Nat):Int):=by
 unfold jK.f an jN
 rw[ti,W_ a_]
 have e:((n:Int)%255).toNat=n%255:=a_
 simp only[Bool.and_self,EK,e,n_]
 by_cases ha:a=0
 ·subst ha
  by_cases hn:n=0
  ·subst hn;rfl
  rw[M_ ⟨rfl,a_⟩]
  obtain⟨m,rfl⟩:∃m,n=m+1:=⟨n-1,a_⟩
  rw[pow,GF.mul_zero];rfl
 have h0:a.1≠0:=fun e=>ha (GF.ext e)
 rw[I_ a_,nP a.2 h0,jW]
theorem sX{a:GF}(h:a≠0):fN.f ((a.1:Nat):Int)=some ((((inv a).1:Nat):Int),true):=by
 unfold fN.f an
 have h0:a.1≠0:=fun e=>h (GF.ext e)
 rw[ti,I_ a_];rfl
theorem II(b:GF){a:GF}(h:a≠0):nJ.f ((b.1:Nat):Int) ((a.1:Nat):Int)=some ((((b*inv a).1:Nat):Int),true):=by
 unfold nJ.f
 rw[sX h,aJ]
 simp only[ν,U_]
 rw[ru,aJ]
theorem Cs(x:GF)(n:Nat)(hn:n<1000):∀(d j k:Nat),j+d=n→d<k→gD.l0 k ((x.1:Nat):Int) (n:Int) (bi (iV x j++List.replicate d 0)) (j:Int)=some (bi (iV x n))
 |d,_,0,_,h=>a_
 |0,j,k+1,hj,hk=>by
  obtain rfl:j=n:=a_
  rw[gD.l0,aQ j_];simp
 |d+1,j,k+1,hj,hk=>by
  rw[gD.l0,bh l_,Ak x a_,aJ,aF (by rw[YO];simp[lM];omega),n_,gY,vF _ _ _ _ (lM x j),bT a_]
  have e:iV x j++[pow x j]=iV x (j+1):=by simp[iV,EW]
  rw[e]
  exact Cs x n hn d (j+1) k a_ a_
theorem Ct{x:GF}{n k:Nat}(hn:n<1000)(hk:1000<k):gD.f k ((x.1:Nat):Int) (n:Int)=some (bi (iV x n)):=by
 unfold gD.f
 rw[aF a_,n_,gZ]
 exact Cs x n hn n 0 k a_ a_
theorem Pn{p q:List GF}{k:Nat}(hp:p.length<1000)(hq:q.length<1000)(h0:0<p.length)(hk:10<k):oM.f k [bi p,bi q]=some (bi (p++q)):=by
 obtain⟨k,rfl⟩:∃k',k=k'+10:=⟨k-10,a_⟩
 have hl:(([bi p,bi q]:List (List Int)).length:Int)=2:=rfl
 have a0:at_ [] [bi p,bi q] 0=bi p:=rfl
 have a1:at_ [] [bi p,bi q] 1=bi q:=rfl
 have w1:I W ((0:Int)+1)=1:=rfl
 have w2:I W ((1:Int)+1)=2:=rfl
 have ep:I W ((0:Int)+((bi p).length:Int))=(p.length:Int):=by rw[YO,ca a_ a_];omega
 have eq:I W ((p.length:Int)+((bi q).length:Int))=((p.length+q.length:Nat):Int):=by rw[YO,ca a_ a_];omega
 have es:I W (((p.length+q.length:Nat):Int)-0)=((p.length+q.length:Nat):Int):=by rw[ca a_ a_];omega
 unfold oM.f db.f
 rw[db.l0,bh JB,aF JB,a0,ep,aQ a_,w1]
 rw[db.l0,bh JB,aF JB,a1,eq,aQ a_,w2]
 rw[db.l0,aQ JB]
 unfold db.j0 db.j1
 rw[aQ a_,es,bh a_,aF a_,aF a_]
 rw[db.l1,bh JB,aF JB,a0,aF EN,w1]
 rw[db.l1,bh JB,aF JB,a1,aF l_,w2]
 rw[db.l1,aQ JB,aJ]
 simp[bi]
def kh(M:List (List GF)):List (List Int):=M.map bi
theorem mg(M:List (List GF)):(kh M).length=M.length:=by simp[kh]
theorem yA(M:List (List GF))(i:Nat):at_ [] (kh M) (i:Int)=bi (bE M i):=by
 simp only[at_,kh,n_,bF,Lr,bE]
 cases M[i]? <;>simp[bi]
theorem Dk{K t:Nat}(hK:0<K)(h:K+t<500)(y:GF→GF)(xs:List GF)(hx:xs.length<1000):∀(d i k:Nat),i+d=xs.length→3000<k→
 fl.l0 (k+d+1) (bi xs) (bi (xs.map y)) (K:Int) (t:Int) (kh ((iv K t y xs).take i)) (i:Int)=fl.j0 k (kh (iv K t y xs)) (K:Int) (t:Int)
 |0,i,k,hi,hk=>by
  rw[fl.l0,aQ g_,D_ (by simp[iv];omega)]
 |d+1,i,k,hi,hk=>by
  have hix:i<xs.length:=a_
  have wa:I W ((K:Int)+(t:Int))=((K+t:Nat):Int):=by rw[ca a_ a_];omega
  have wb:I W ((t:Int)+1)=((t+1:Nat):Int):=bT a_
  rw[fl.l0,bh g_,aF g_,cI,wa,Ct a_ a_,aJ,aF EM,wb,Ct a_ a_,aJ,cI,
   nG aaT aaT,aJ,Pn aaT (by rw[x_,lM];omega) aaT a_,aJ,aF (by rw[mg];simp[iv];omega),bT a_]
  have e:kh ((iv K t y xs).take i)++[bi (iV (xs.getD i 0) (K+t)++(iV (xs.getD i 0) (t+1)).map ((xs.map y).getD i 0* ·))]=kh ((iv K t y xs).take (i+1)):=by
   rw[y_ (by simp[iv];omega)]
   simp[kh,iv,nf,bF,hix]
  rw[e,show k+(d+1)=k+d+1 by omega]
  exact Dk hK h y xs hx d (i+1) k a_ hk
theorem sY{C:Nat}:∀(M:List (List GF)),(∀r∈M,r.length=C)→M.flatten.length=M.length*C
 | [],_=>j_
 |r::M,h=>by
  rw[J8,E_,sY M fun s hs=>h s (o_ _ hs),h r H_,r_,V_];omega
theorem BS{C:Nat}(M:List (List GF))(hM:∀r∈M,r.length=C)(h1:M.length<1000)(h2:C<1000):∀(d i k:Nat),i+d=M.length→d<k→
 eK.l0 k (kh M) (C:Int) (bi (M.take i).flatten) (i:Int)=some (((M.length:Int),(C:Int),bi M.flatten),true)
 |d,_,0,_,h=>a_
 |0,i,k+1,hi,hk=>by
  rw[eK.l0,aQ PV,D_ a_,mg]
 |d+1,i,k+1,hi,hk=>by
  have hiM:i<M.length:=a_
  have hr:(bE M i).length=C:=by
   simp only[bE,bF,C_ hiM]
   exact hM _ (T_ hiM)
  have hf:(M.take i).flatten.length=i*C:=by
   rw[sY _ fun r hr=>hM r (LK hr),ζ,Nl a_]
  have hmul:i*C≤1000*1000:=Φ a_ a_
  rw[eK.l0,bh PV,aF PV,yA,cH N8,aF (by rw[YO,YO,hf,hr];omega),bT a_,←gb]
  have e:(M.take i).flatten++bE M i=(M.take (i+1)).flatten:=by
   rw[y_ hiM,YT]
   simp[bE,bF,hiM]
  rw[e]
  exact BS M hM h1 h2 d (i+1) k a_ a_
theorem Mc{C k:Nat}{M:List (List GF)}(hM:∀r∈M,r.length=C)(h0:0<M.length)(h1:M.length≤300)(h2:C≤300)(hk:1000<k):eK.f k (kh M)=some (((M.length:Int),(C:Int),bi M.flatten),true):=by
 have hr:(bE M 0).length=C:=by
  simp only[bE,bF,C_ h0]
  exact hM _ (T_ h0)
 unfold eK.f
 rw[bh PV,aF PV,show(0:Int)=((0:Nat):Int) from rfl,yA,YO,hr]
 unfold eK.j0
 rw[aQ PV,aQ a_]
 exact BS M hM a_ a_ M.length 0 k a_ a_
theorem Md{R C:Nat}{l:List GF}(hR:R≤300)(hC:C≤300)(hl:l.length=R*C):nY.f ((R:Int),(C:Int),bi l)=some true:=by
 unfold nY.f mM.f
 have hm:R*C≤300*300:=Φ hR hC
 have e:I W ((R:Int)*(C:Int))=((R*C:Nat):Int):=by rw[←aag,iB a_]
 simp only[]
 rw[bh a_,W_ a_,aJ]
 simp only[EK]
 rw[bh a_,W_ a_,aJ]
 simp only[EK]
 rw[e,YO,hl,W_ rfl]
theorem u7:∀(d i k:Nat)(p:List GF),i+d=p.length→p.length<1000→1000+d<k→
 fY.l0 k (bi p) (bi ((dE p).take i++p.drop i)) (i:Int)=some (bi (aW (dE p)))
 |d,_,0,_,_,_,h=>a_
 |0,i,k+1,p,hi,hp,hk=>by
  have hl:=(sJ p).1
  rw[fY.l0,aQ g_,D_ a_,Θ a_,fQ,lK a_ a_,aJ]
 |d+1,i,k+1,p,hi,hp,hk=>by
  have hl:=(sJ p).1
  have hip:i<p.length:=a_
  have hid:i<(dE p).length:=a_
  have hm:Int.tmod (i:Int) 2=((i%2:Nat):Int):=by rw[EO a_];omega
  have ed:p.drop i=p.getD i 0::p.drop (i+1):=by rw[δ hip,dG hip]
  have et:(dE p).take (i+1)=(dE p).take i++[(dE p).getD i 0]:=by rw[y_ hid,dG hid]
  have hg:=(zd p i).1
  have hlen:((dE p).take i).length=i:=IK
  rw[fY.l0,bh g_,hm]
  rcases Gp i with ho|ho
  ·rw[aQ a_,bT a_]
   rw[I_ a_]at hg
   have e:(dE p).take i++p.drop i=(dE p).take (i+1)++p.drop (i+1):=by rw[ed,et,hg];simp
   rw[e]
   exact u7 d (i+1) k p a_ hp a_
  rw[bh a_,aF (by rw[YO,E_,hlen,FT];omega),n_,show(0:Int)=(((0:GF).1:Nat):Int) from rfl,gY,bT a_]
  rw[M_ ho]at hg
  have e:((dE p).take i++p.drop i).set i 0=(dE p).take (i+1)++p.drop (i+1):=by
   rw[ed,et,hg,DZ _ _ a_,hlen,Ff,FM];simp
  rw[e]
  exact u7 d (i+1) k p a_ hp a_
theorem Gz{p:List GF}{k:Nat}(hp:p.length<1000)(hk:2500<k):fY.f k (bi p)=some (bi (aW (dE p.tail))):=by
 unfold fY.f
 cases p with
 |nil=>rw[bh EJ];rfl
 |cons c p=>
  have e:((bi (c::p)).take (bi (c::p)).length).drop ((1:Int).toNat)=bi p:=by rw[EU];rfl
  rw[aQ (by rw[YO,r_];omega),aF (by rw[YO,r_];omega),e]
  simp only[r_]at hp
  have e2:dM.f (bi p)=some (bi p):=by unfold dM.f;rw[aF g_]
  rw[e2,aJ]
  have:=u7 p.length 0 k p a_ a_ a_
  rw[bP,ψ,Γ]at this
  exact this
theorem Cv{N:Nat}(h:N≤255):(bl al N).Nodup:=by
 have:=Pr (B:=0) h
 simpa [eQ,bl] using this
theorem N1{N i:Nat}(h:i<N):pow al i∈bl al N:=uV.2 ⟨i,φ.2 h,rfl⟩
def jy(N B:Nat):List GF:=(List.range N).map (wv al N B)
theorem qq(N B:Nat):(jy N B).length=N:=by simp[jy]
theorem QL{N B i:Nat}(h:i<N):(jy N B).getD i 0=wv al N B i:=by simp[jy,bF,h]
theorem Cm{N K B:Nat}(hN:N≤250):∀(d i k:Nat),i+d=N→3000<k→
 dn.l0 (k+d+1) ((N:Int),(K:Int),(B:Int)) (bi (bl al i++List.replicate d 0)) (i:Int)=dn.j0 (dn.l1 k) k ((N:Int),(K:Int),(B:Int)) (bi (bl al N))
 |0,i,k,hi,hk=>by
  obtain rfl:i=N:=a_
  rw[dn.l0,aQ j_];simp
 |d+1,i,k,hi,hk=>by
  rw[dn.l0,bh l_,wY a_,aJ,aF (by rw[YO];simp[dI];omega),n_,gY,vF _ _ _ _ (dI al i),bT a_]
  have e:bl al i++[pow al i]=bl al (i+1):=by simp[bl,EW]
  rw[e,show k+(d+1)=k+d+1 by omega]
  exact Cm hN d (i+1) k a_ hk
theorem Cn{N K B:Nat}(hN:N≤250)(hB:B≤255){s:List GF}(hs:s.length<1000)(hv:∀i<N,pv s (pow al i)=lp (pow al i) (bl al N)):∀(d i k:Nat),i+d=N→3000+d<k→
 dn.l1 k ((N:Int),(K:Int),(B:Int)) (bi (bl al N)) (bi s) (bi ((jy N B).take i++List.replicate d 0)) (i:Int)=some (bi (bl al N),bi (jy N B))
 |d,_,0,_,h=>a_
 |0,i,k+1,hi,hk=>by
  rw[dn.l1,aQ Ls,D_ (by rw[qq];omega)];simp
 |d+1,i,k+1,hi,hk=>by
  have hiN:i<N:=a_
  have hne:pow (pow al i) B*lp (pow al i) (bl al N)≠0:=mN (oh (oh qA i) B) (pU _ _)
  have hl:((jy N B).take i).length=i:=by rw[ζ,qq];omega
  rw[dn.l1,bh Ls,aF Ls,cI,tZ al hiN]
  simp only[]
  rw[Ak _ a_,aJ,uY a_ a_,aJ,hv i hiN,ru,aJ,sX hne,aJ,aF (by rw[YO,E_,hl];simp;omega),n_,gY,vF _ _ _ _ hl,bT a_]
  have e:(jy N B).take i++[inv (pow (pow al i) B*lp (pow al i) (bl al N))]=(jy N B).take (i+1):=by
   rw[y_ (by rw[qq];exact hiN)]
   simp[jy,wv]
  rw[e]
  exact Cn hN hB hs hv d (i+1) k a_ a_
theorem Co{N K B k:Nat}(hc:Cd N K B)(hN:N≤250)(hB:B≤255)(hk:8000<k):dn.f k ((N:Int),(K:Int),(B:Int))=some (bi (bl al N),bi (jy N B)):=by
 obtain⟨k,rfl⟩:∃k',k=k'+N+1:=⟨k-N-1,a_⟩
 have hgl:=(Ap (bl al N)).1
 rw[dI]at hgl
 unfold dn.f
 simp only[]
 rw[jX hc,aJ,cH rfl,aF a_,n_,gZ]
 have h:=Cm (K:=K) (B:=B) hN N 0 k a_ a_
 rw[show bl al 0=[] from rfl,ψ]at h
 rw[show(0:Int)=((0:Nat):Int) from rfl,h]
 unfold dn.j0
 simp only[]
 rw[IU (by rw[dI];omega) a_,aJ,Gz a_ a_,aJ,aF a_,n_,gZ]
 have hdl:(aW (dE (gr (bl al N)).tail)).length<1000:=by
  have h1:=gP (dE (gr (bl al N)).tail)
  have h2:=(sJ (gr (bl al N)).tail).1
  rw[List.length_tail]at h2
  omega
 have:=Cn (N:=N) (K:=K) (B:=B) hN hB hdl (fun i hi=>by rw[fG,PE (Cv a_) (N1 hi)]) N 0 k a_ a_
 rw[bP,ψ]at this
 exact this
def gU(y:GF→GF)(p l:List GF):Nat:=(l.filter fun x=>!decide (pv p x=y x)).length
theorem Ql{y:GF→GF}{p:List GF}{a:GF}(t:List GF)(h:pv p a=y a):gU y p (a::t)=gU y p t:=by
 unfold gU;rw[Le,I_ aac]
theorem Qm{y:GF→GF}{p:List GF}{a:GF}(t:List GF)(h:¬pv p a=y a):gU y p (a::t)=gU y p t+1:=by
 unfold gU;rw[Le,M_ aac];rfl
theorem xO{p xs:List GF}(y:GF→GF)(hp:p.length<1000)(hx:xs.length<1000):∀(d i k c:Nat),i+d=xs.length→2000+d<k→c+d<100000→
 gV.l0 k (bi p) (bi xs) (bi (xs.map y)) (c:Int) (i:Int)=some ((c+gU y p (xs.drop i):Nat):Int)
 |d,_,0,_,_,h,_=>a_
 |0,i,k+1,c,hi,hk,hc=>by
  rw[gV.l0,aQ (by rw[YO,YO,x_,tI];omega),Θ a_];rfl
 |d+1,i,k+1,c,hi,hk,hc=>by
  have hix:i<xs.length:=a_
  have e:xs.drop i=xs.getD i 0::xs.drop (i+1):=aaX
  have hu:gU y p (xs.drop (i+1))≤xs.length:=by
   refine Lh (xJ _ _) ?_
   rw[FT];omega
  rw[gV.l0,bh (by rw[YO,YO,x_,tI];omega),aF g_,aF EM,cI,uY a_ a_,aJ,cI]
  have hy:(xs.map y).getD i 0=y (xs.getD i 0):=by simp[bF,hix]
  rw[hy,e]
  by_cases h:pv p (xs.getD i 0)=y (xs.getD i 0)
  ·rw[cH (by rw[h]),bT a_,xO y hp hx d (i+1) k c a_ a_ a_,Ql _ h]
  have hne:¬(((pv p (xs.getD i 0)).1:Nat):Int)=(((y (xs.getD i 0)).1:Nat):Int):=fun e=>h (GF.ext a_)
  rw[kg hne,bT a_,bT a_,xO y hp hx d (i+1) k (c+1) a_ a_ a_]
  rw[Qm _ h];congr 2;omega
theorem Qn{p xs:List GF}(y:GF→GF){k:Nat}(hp:p.length<1000)(hx:xs.length<1000)(hk:4000<k):gV.f k (bi p) (bi xs) (bi (xs.map y))=some ((gU y p xs:Nat):Int):=by
 unfold gV.f
 have:=xO y hp hx xs.length 0 k 0 a_ a_ a_
 rw[Γ,FW]at this
 exact this
theorem O1{N K B k:Nat}{p:List GF}(hc:Cd N K B)(hN:N≤250)(hB:B≤255)(hp:p.length<1000)(hk:8000<k):oL.f k ((N:Int),(K:Int),(B:Int)) (bi p)=some (bi ((List.range N).map fun i=>wv al N B i*pv p (pow al i))):=by
 unfold oL.f
 simp only[]
 rw[Co hc hN hB hk,aJ]
 simp only[]
 rw[uW a_ (by rw[dI];omega) a_,aJ,Aj _ _ (by rw[qq];omega),aJ]
 congr 2
 apply Fq (by simp[qq,dI])
 intro i h1 h2
 simp[jy,bl]
theorem wH(p:List GF):aW (aW p)=aW p:=by
 refine vJ ?_ fun j=>jR _ j
 have h1:=gP (aW p)
 by_cases e:aW p=[]
 ·rw[e];rfl
 have h2:=pY e
 rw[←jR (aW p)]at h2
 have hpos:=Bz.2 e
 by_cases hj:(aW p).length-1<(aW (aW p)).length
 ·omega
 rw[bF,τ a_]at h2
 exact absurd rfl h2
theorem Ao{s:Nat}{g gg:List GF}{c:GF}(hgg:g.take (s+1)=gg)(hgl:gg.length=s+1)(hgl2:s+1≤g.length)(hg4:g.length<1000)(hgc:gg.getD s 0=c)(hc0:c≠0)(hs:s≤254):∀(n:Nat)(l q:List GF)(k:Nat),l.length≤n→l.length<1000→q.length<1000→l.length≤q.length+s→n*(s+8)+2000<k→aW l=l→(∀j,j<l.length-s→q.getD j 0=0)→
 ∃(R q':List GF),R.length≤s∧aW R=R∧q'.length=q.length∧(∀x,pv l x+pv q x*pv gg x=pv q' x*pv gg x+pv R x)∧cU.l0 k (bi g) (s:Int) ((((inv c).1:Nat):Int),true) (bi l) (bi q)=some (bi (aW q'),bi R,true)
 |n,l,q,0,_,_,_,_,h,_,_=>a_
 |n,l,q,k+1,hn,hl,hq2,hq,hk,hnl,hz=>by
  have e0:I W (((bi l).length:Int)-1)=(l.length:Int)-1:=by rw[YO];exact ca a_ a_
  by_cases hle:l.length≤s
  ·refine⟨l,q,hle,hnl,rfl,fun x=>GF.add_comm _ _,?_⟩
   rw[cU.l0,e0,bh a_]
   unfold cU.j0
   rw[lK a_ a_];rfl
  match n,hn,hk with
  |0,hn,hk=>omega
  |n+1,hn,hk=>
   have hmul:(n+1)*(s+8)=n*(s+8)+s+8:=O_
   have e1:(l.length:Int)-1=((l.length-1:Nat):Int):=a_
   have e2:I W (((l.length-1:Nat):Int)-(s:Int))=((l.length-1-s:Nat):Int):=by rw[ca a_ a_];omega
   rw[cU.l0,e0,aQ a_,e1,aF g_,cI]
   simp only[]
   rw[ru,aJ,e2,aF g_,bT a_,aF g_,n_,lh,nu,hgg,Γ,nG (by rw[hgl];omega) (by rw[hgl];omega),aJ]
   generalize ht:l.getD (l.length-1) 0*inv c=t
   obtain⟨k',h1,h2⟩:=y3 g l (gg.map (t* ·)) s t.1 ((((inv c).1:Nat):Int),true) (bi q) a_ a_ (by rw[x_,hgl]) (gg.map (t* ·)).length 0 k l a_ Nk rfl
   rw[show((0:Nat):Int)=0 from rfl]at h2
   rw[x_,hgl]at h1
   rw[h2,Gy,Γ]
   generalize hl':fL (l.length-1-s) (gg.map (t* ·)) l=l'
   have hlen:l'.length=l.length:=by rw[←hl',j9]
   have htc:t*c=l.getD (l.length-1) 0:=by rw[←ht,GF.mul_assoc,GF.mul_comm (inv c),gN hc0,GF.mul_one]
   have htop:l'.getD (l'.length-1) 0=0:=by
    rw[hlen,←hl',sy _ _ _ _ Nk,M_ Nk,show l.length-1-(l.length-1-s)=s by omega]
    have:(gg.map (t* ·)).getD s 0=t*gg.getD s 0:=pV t gg s
    rw[this,hgc,htc,GF.eE]
   have hlt:=MB a_ htop
   have hval:∀x,pv l' x=pv l x+pow x (l.length-1-s)*(t*pv gg x):=fun x=>by
    rw[←hl',rQ x _ _ _ Nk,mX]
   unfold cU.j1
   rw[qP a_ a_,aJ,ca (x:=((aW l').length:Int)-1+1) a_ a_,aF g_]
   rw[show(((aW l').length:Int)-1+1).toNat=(aW l').length by omega,lh,tQ]
   rw[e0,e1,e2,n_,gY]
   have hq0:=hz (l.length-1-s) a_
   obtain⟨R,q',r1,r2,r3,r4,r5⟩:=Ao hgg hgl hgl2 hg4 hgc hc0 hs n (aW l') (q.set (l.length-1-s) t) k' a_ a_ η η a_ (wH l') fun j hj=>by
    rw[bF,Lp,I_ a_,←bF]
    exact hz j a_
   refine⟨R,q',r1,r2,by rw[r3,υ],fun x=>?_,r5⟩
   rw[←r4 x,fG,hval x,ub x t q _ a_,hq0,GF.zero_add,GF.add_mul]
   rw[show pv l x+pow x (l.length-1-s)*(t*pv gg x)+(pv q x*pv gg x+pow x (l.length-1-s)*t*pv gg x)=pv l x+pv q x*pv gg x+(pow x (l.length-1-s)*t*pv gg x+pow x (l.length-1-s)*t*pv gg x) by ac_rfl,GF.eE,GF.add_zero]
theorem IZ{p d:List GF}{k:Nat}(hp:p.length<250)(hd:d.length<250)(hd0:aW d≠ [])(hk:80000<k):
 ∃R q:List GF,cU.f k (bi p) (bi d)=some (bi (aW q),bi R,true)∧R.length<(aW d).length∧aW R=R∧q.length≤p.length∧∀x,pv p x=pv q x*pv (aW d) x+pv R x:=by
 have hpos:=Bz.2 hd0
 obtain⟨s,hs⟩:∃s,(aW d).length=s+1:=⟨_,(Lm hpos).symm⟩
 have hle:=gP d
 have hlp:=gP p
 have htake:d.take (s+1)=aW d:=by rw[←hs];exact tQ d
 have hlast:=pY hd0
 rw[hs,FK]at hlast
 have hat:d.getD s 0=(aW d).getD s 0:=(jR d s).symm
 have e2:I W (((bi (aW p)).length:Int)-(s:Int))=((aW p).length:Int)-(s:Int):=by rw[YO];exact ca a_ a_
 have hm:max2 (((aW p).length:Int)-(s:Int)) 0=(((aW p).length-s:Nat):Int):=Z9
 have hmul:(aW p).length*(s+8)≤250*260:=Φ a_ a_
 obtain⟨R,q',r1,r2,r3,r4,r5⟩:=Ao (g:=d) htake hs a_ a_ rfl hlast a_ (aW p).length (aW p) (List.replicate ((aW p).length-s) 0) k (aI _) a_ FV FV a_ (wH p) fun j hj=>by
  simp[bF,Fp,hj]
 refine⟨R,q',?_,a_,r2,by rw[r3,P_];omega,fun x=>?_⟩
 ·unfold cU.f
  rw[qP a_ a_,hs,aJ,show((s+1:Nat):Int)-1=(s:Int) by omega,aQ a_,aF g_,cI,hat,sX hlast,aJ,lK a_ a_,aJ,e2,hm,aF a_,n_,gZ]
  exact r5
 have:=r4 x
 rw[ic,GF.zero_mul,GF.add_zero,fG]at this
 exact this
theorem IG{p d P:List GF}{k:Nat}(hp:p.length<120)(hd:d.length<120)(hP:P.length<120)(hd0:aW d≠ [])(h:∀x,pv p x=pv P x*pv d x)(hk:80000<k):oq.f k (bi p) (bi d)=some (bi (aW P),true):=by
 obtain⟨R,q,e,h1,h2,h3,h4⟩:=IZ (p:=p) (d:=d) a_ a_ hd0 hk
 have hpos:=Bz.2 hd0
 obtain⟨s,hs⟩:∃s,(aW d).length=s+1:=⟨_,(Lm hpos).symm⟩
 have hle:=gP d
 have hlast:=pY hd0
 rw[hs,FK]at hlast
 obtain⟨t1,t2⟩:=N4 hs hlast (r:=R) (q:=q) (P:=P) a_ a_ a_ h4 fun x=>by rw[h x,fG]
 have hR:R=[]:=by rw[←h2];exact uX t1
 unfold oq.f
 rw[e,aJ,hR,t2]
 rfl
structure Mx (R C:Nat) (M:List (List GF)):Prop where
 len:M.length=R
 row:∀r∈M,r.length=C
theorem Mx.at{R C i:Nat}{M:List (List GF)}(h:Mx R C M)(hi:i<R):(bE M i).length=C:=by
 have hi':i<M.length:=ZN
 simp only[bE,bF,C_ hi']
 exact h.row _ (T_ hi')
theorem Mx.set{R C:Nat}{M:List (List GF)}(h:Mx R C M)(i:Nat){r:List GF}(hr:r.length=C):Mx R C (M.set i r):=
 ⟨by rw[υ,h.len],fun s hs=>(NK hs).elim (h.row s) fun e=>e▸hr⟩
theorem Mx.iO{R C:Nat}{M:List (List GF)}(h:Mx R C M):M.flatten.length=R*C:=by rw[sY M h.row,h.len]
theorem Mx.lT{R C i:Nat}{M:List (List GF)}(h:Mx R C M)(hi:i<R)(a:Nat)(r:List GF):bE (M.set i r) a=if a=i then r else bE M a:=Gw.lT M i a r ZN
theorem vH{C:Nat}:∀(M:List (List GF))(i:Nat),(∀r∈M,r.length=C)→i<M.length→(M.flatten.take ((i+1)*C)).drop (i*C)=bE M i
 | [],i,_,h=>aS
 |r::M,0,h,_=>by
  have hr:=h r H_
  rw[J8,FW,Nat.one_mul,ND,Γ,←hr,abd];rfl
 |r::M,i+1,h,hi=>by
  have hr:=h r H_
  rw[J8,show(i+1+1)*C=r.length+(i+1)*C by rw[hr,V_ (i+1)];omega,show(i+1)*C=r.length+i*C by rw[hr,V_];omega,aa4,aa5]
  have:=vH M i (fun s hs=>h s (o_ _ hs)) aau
  rw[show(i+1)*C=r.length+i*C by rw[hr,V_];omega]at this
  rw[this];rfl
theorem Ad{C:Nat}:∀(M:List (List GF))(i:Nat)(r:List GF),(∀s∈M,s.length=C)→i<M.length→M.flatten.take (i*C)++r++M.flatten.drop (i*C+C)=(M.set i r).flatten
 | [],i,_,_,h=>aS
 |s::M,0,r,h,_=>by
  have hs:=h s H_
  rw[J8,ND,FW,←hs,List.drop_left,bP,FM,J8,ψ]
 |s::M,i+1,r,h,hi=>by
  have hs:=h s H_
  rw[J8,show(i+1)*C+C=s.length+(i*C+C) by rw[hs,V_];omega,show(i+1)*C=s.length+i*C by rw[hs,V_];omega,aa4,aa5,ZF,J8,←Ad M i r (fun u hu=>h u (o_ _ hu)) aau]
  simp
theorem Ab{C:Nat}:∀(M:List (List GF))(i j:Nat)(v:GF),(∀s∈M,s.length=C)→i<M.length→j<C→M.flatten.set (i*C+j) v=(M.set i ((bE M i).set j v)).flatten
 | [],i,_,_,_,h,_=>aS
 |s::M,0,j,v,h,_,hj=>by
  have hs:=h s H_
  rw[J8,ND,FW,List.set_append_left _ _ a_];rfl
 |s::M,i+1,j,v,h,hi,hj=>by
  have hs:=h s H_
  rw[J8,show(i+1)*C+j=s.length+(i*C+j) by rw[hs,V_];omega,DZ _ _ a_,ZV,Ab M i j v (fun u hu=>h u (o_ _ hu)) aau hj]
  rfl
theorem vG{R C i:Nat}{M:List (List GF)}(h:Mx R C M)(hi:i<R){r:List GF}(hr:r.length=C){n:Nat}(hn:n=C):cB (i*C) n (bi r) (bi M.flatten)=bi (M.set i r).flatten:=by
 have e:(bi r).take n=bi r:=D_ (by rw[YO,hr,hn];exact aI _)
 unfold cB
 rw[e,YO,hr,lh,nu,←gb,←gb,Ad M i r h.row ZN]
def ints(L:List Nat):List Int:=L.map fun n:Nat=>(n:Int)
theorem iQ(L:List Nat):(ints L).length=L.length:=by simp[ints]
theorem ints_at{L:List Nat}{i:Nat}(h:i<L.length):at_ 0 (ints L) (i:Int)=((L.getD i 0:Nat):Int):=by simp[ints,at_,bF,h]
theorem wC{C:Nat}(h:C≤300):I W ((C:Int)+0)=(C:Int):=by rw[ca a_ a_];omega
theorem wM{i C:Nat}(hi:i≤301)(h:C≤300):I W ((i:Int)*(C:Int))=((i*C:Nat):Int):=by
 have:=Φ hi h
 rw[←aag,iB a_]
theorem ki{R C i:Nat}{M:List (List GF)}(h:Mx R C M)(hi:i<R):(((bi M.flatten).take ((((i+1)*C:Nat):Int).toNat)).drop (((i*C:Nat):Int).toNat))=bi (bE M i):=by
 rw[n_,n_,lh,nu,vH M i h.row ZN]
section
variable{R C:Nat}{cs:List Int}{M:List (List GF)}{L:List Nat}
theorem zK(hR:R≤300)(hC:C≤300)(h:Mx R C M):∀(d i k:Nat),i+d=R→
 bH.l0 (k+2*d+1) ((R:Int),(C:Int),bi M.flatten) (bi (M.take i).flatten) (i:Int)=bH.l2 k ((R:Int),(C:Int),bi M.flatten) (bi M.flatten) [] 0
 |0,i,k,hi=>by
  rw[bH.l0,aQ iU,D_ P5];rfl
 |d+1,i,k,hi=>by
  have hiR:i<R:=a_
  have hmul:(i+1)*C=i*C+C:=O_
  have hle:(i+1)*C≤R*C:=BF C a_
  have hb:R*C≤300*300:=Φ hR hC
  have hf:(M.take i).flatten.length=i*C:=by
   rw[sY _ fun r hr=>h.row r (LK hr),ζ,h.len,Nl a_]
  have hM':i<M.length:=NG
  rw[show k+2*(d+1)+1=(k+2*d+1+1)+1 by omega,bH.l0]
  simp only[]
  rw[bh a_,wM a_ hC,bT a_,wM a_ hC,aF Fb,ki h hiR,aF (by rw[YO,YO,hf,h.at hiR];omega),bH.l1]
  simp only[]
  rw[wM a_ hC,bT a_,wM a_ hC,ki h hiR,←gb]
  have e:(M.take i).flatten++bE M i=(M.take (i+1)).flatten:=by
   rw[y_ hM',YT]
   simp[bE,bF,hM']
  rw[e]
  exact zK hR hC h d (i+1) k a_
theorem si(r q:List GF)(h:r.length=q.length):(List.zipWith (·+ ·) r q).length=r.length:=aac
def iC(r q:List GF)(j:Nat):List GF:=(List.zipWith (·+ ·) r q).take j++r.drop j
theorem Ri{r q:List GF}(h:r.length=q.length){j:Nat}(hj:j≤r.length):(iC r q j).length=r.length:=by
 simp[iC,h];omega
theorem Rh{r q:List GF}(h:r.length=q.length){j:Nat}(hj:j<r.length):(iC r q j).getD j 0=r.getD j 0:=by
 have hl:((List.zipWith (·+ ·) r q).take j).length=j:=by rw[ζ,si r q h];omega
 unfold iC
 rw[bF,ε a_,hl,Ff,IE,Gy,←bF]
theorem Rj{r q:List GF}(h:r.length=q.length){j:Nat}(hj:j<r.length):(iC r q j).set j (r.getD j 0+q.getD j 0)=iC r q (j+1):=by
 have hl:((List.zipWith (·+ ·) r q).take j).length=j:=by rw[ζ,si r q h];omega
 have hz:j<(List.zipWith (·+ ·) r q).length:=by rw[si r q h];exact hj
 unfold iC
 rw[DZ _ _ a_,hl,Ff,δ hj,FM,y_ hz,DX]
 congr 1
 rw[LM,dG hj,dG (by omega:j<q.length)];rfl
theorem zN(hR:R≤300)(hC:C≤300)(h:Mx R C M){a:Nat}(ha:a<R){q:List GF}(hq:q.length=C)(x2:Int):∀(d j k:Nat),j+d=C→
 bH.l5 (k+d+1) ((R:Int),(C:Int),cs) (ints L) x2 (a:Int) (bi q) (bi (M.set a (iC (bE M a) q j)).flatten) (j:Int)=bH.l4 k ((R:Int),(C:Int),cs) (ints L) x2 (bi (M.set a (List.zipWith (·+ ·) (bE M a) q)).flatten) ((a+1:Nat):Int)
 |0,j,k,hj=>by
  have e:iC (bE M a) q j=List.zipWith (·+ ·) (bE M a) q:=by
   unfold iC
   rw[D_ (by rw[si _ _ (by rw[h.at ha,hq]),h.at ha];omega),Θ (by rw[h.at ha];omega),fQ]
  rw[bH.l5,aQ (by rw[YO,hq];omega),e,bT a_]
 |d+1,j,k,hj=>by
  have hrl:=h.at ha
  have hrq:(bE M a).length=q.length:=by rw[hrl,hq]
  have hz:=Ri hrq (j:=j) a_
  have h':Mx R C (M.set a (iC (bE M a) q j)):=h.set a (by rw[hz,hrl])
  have hmul:(a+1)*C=a*C+C:=O_
  have hle:(a+1)*C≤R*C:=BF C a_
  have hb:R*C≤300*300:=Φ hR hC
  have er:bE (M.set a (iC (bE M a) q j)) a=iC (bE M a) q j:=by rw[h.lT ha,M_ rfl]
  rw[show k+(d+1)+1=(k+d+1)+1 by omega,bH.l5,bh (by rw[YO,hq];omega),aF (by rw[YO,hq];omega)]
  simp only[]
  rw[wC hC,wM a_ hC,bT a_,wM a_ hC,aF (by rw[YO,h'.iO];omega),ki h' ha,er,aF (by rw[YO,hz,hrl];omega),aF (by rw[YO,hz,hrl];omega),cI,cI,xor_val,Rh hrq a_,n_,n_,gY,Ab _ a j _ h'.row (by rw[h'.len];exact ha) a_,er,Rj hrq a_,List.set_set,bT a_]
  exact zN hR hC h ha hq x2 d (j+1) k a_
theorem It{n col i:Nat}{rn r:List GF}(hl:r.length=rn.length)(h0:r.getD col 0=0):jG n col rn i r=r:=by
 unfold jG
 split
 ·rfl
 refine vJ aaq fun c=>?_
 rw[Ef _ _ aaq,pV,h0,GF.zero_mul,GF.add_zero]
theorem vC(hR:R≤300)(hC:C≤300){n:Nat}(hn:n=L.length)(hnR:n<R){col:Nat}(hcol:col<C){rn:List GF}:∀(d a k:Nat)(M:List (List GF)),a+d=R→Mx R C M→bE M n=rn→2000<k→
 ∃(k':Nat)(M':List (List GF)),k≤k'∧Mx R C M'∧(∀i<R,bE M' i=if a≤i then jG n col rn i (bE M i)else bE M i)∧
  ∀K,K=k+d*(C+4)+1→bH.l4 K ((R:Int),(C:Int),cs) (ints L) (col:Int) (bi M.flatten) (a:Int)=bH.j1 (bH.l2 k') k' ((R:Int),(C:Int),cs) (ints L) (col:Int) (bi M'.flatten)
 |0,a,k,M,ha,h,hrn,hk=>by
  refine⟨k,M,aI _,h,fun i hi=>by rw[I_ a_],fun K hK=>?_⟩
  rw[hK,ND,Gy,bH.l4,aQ iU]
 |d+1,a,k,M,ha,h,hrn,hk=>by
  have haR:a<R:=a_
  have hrl:=h.at haR
  have hrnl:rn.length=C:=by rw[←hrn];exact h.at hnR
  have hmul:(a+1)*C=a*C+C:=O_
  have hle:(a+1)*C≤R*C:=BF C a_
  have hmuln:(n+1)*C=n*C+C:=O_
  have hlen:(n+1)*C≤R*C:=BF C a_
  have hb:R*C≤300*300:=Φ hR hC
  have hfuel:(d+1)*(C+4)=d*(C+4)+C+4:=O_
  by_cases hs:a=n∨(bE M a).getD col 0=0
  ·
   have hst:jG n col rn a (bE M a)=bE M a:=by
    rcases hs with e|e
    ·unfold jG;rw[M_ e]
    exact It (by rw[hrl,hrnl]) e
   obtain⟨k',M',h1,h2,h3,h4⟩:=vC hR hC hn hnR hcol d (a+1) (k+C+3) M a_ h hrn a_
   refine⟨k',M',a_,h2,fun i hi=>?_,fun K hK=>?_⟩
   ·rw[h3 i hi]
    by_cases e:i=a
    ·subst e;rw[I_ a_,M_ (aI _),hst]
    by_cases e2:a≤i
    ·rw[M_ a_,M_ e2]
    rw[I_ a_,I_ e2]
   rw[hK,show k+(d+1)*(C+4)+1=(k+C+3+d*(C+4)+1)+1 by omega,bH.l4]
   simp only[]
   rw[bh a_,wC hC,wM a_ hC,bT a_,wM a_ hC,aF Fb,ki h haR,aF Nu,iQ]
   have fin:∀b,b=false→bH.j2 (bH.l4 (k+C+3+d*(C+4)+1)) (bH.l5 (k+C+3+d*(C+4)+1)) (k+C+3+d*(C+4)+1) ((R:Int),(C:Int),cs) (ints L) (col:Int) (bi M.flatten) (a:Int) b=bH.j1 (bH.l2 k') k' ((R:Int),(C:Int),cs) (ints L) (col:Int) (bi M'.flatten):=fun b hb=>by
    unfold bH.j2
    rw[hb,U_,bT a_]
    exact h4 _ rfl
   by_cases e:a=n
   ·rw[cH a_];exact fin _ rfl
   rw[kg a_,cI,hs.resolve_left e];exact fin _ rfl
  
  obtain⟨e1,e2⟩:=not_or.1 hs
  have hzl:(List.zipWith (·+ ·) (bE M a) (rn.map ((bE M a).getD col 0* ·))).length=C:=by rw[si _ _ (by rw[x_,hrl,hrnl]),hrl]
  have hM2:=h.set a hzl
  have hrn2:bE (M.set a (List.zipWith (·+ ·) (bE M a) (rn.map ((bE M a).getD col 0* ·)))) n=rn:=by rw[h.lT haR,I_ (fun e=>e1 e.symm),hrn]
  obtain⟨k',M',h1,h2,h3,h4⟩:=vC hR hC hn hnR hcol d (a+1) (k+2) _ a_ hM2 hrn2 a_
  refine⟨k',M',a_,h2,fun i hi=>?_,fun K hK=>?_⟩
  ·rw[h3 i hi,h.lT haR]
   by_cases e:i=a
   ·subst e;rw[I_ a_,M_ rfl,M_ (aI _)];unfold jG;rw[I_ e1]
   rw[I_ e]
   by_cases e3:a≤i
   ·rw[M_ a_,M_ e3]
   rw[I_ a_,I_ e3]
  rw[hK,show k+(d+1)*(C+4)+1=((k+2+d*(C+4)+1)+C+1)+1 by omega,bH.l4]
  simp only[]
  rw[bh a_,wC hC,wM a_ hC,bT a_,wM a_ hC,aF Fb,ki h haR,aF Nu,iQ,kg a_,cI]
  have hne:¬((((bE M a).getD col 0).1:Nat):Int)=0:=fun e=>e2 (GF.ext (by simpa using e))
  rw[θ hne]
  unfold bH.j2
  simp only[ZJ,EK]
  rw[iQ,←hn,wC hC,wM (i:=n) a_ hC,bT a_,wM (i:=n+1) a_ hC,aF Fb,ki h hnR,wM (i:=a) a_ hC,bT a_,wM (i:=a+1) a_ hC,ki h haR,cI,hrn,nG (by rw[hrnl];omega) (by rw[hrnl];omega),aJ]
  have hl5:=zN (cs:=cs) (L:=L) hR hC h haR (q:=rn.map ((bE M a).getD col 0* ·)) (by rw[x_,hrnl]) (col:Int) C 0 (k+2+d*(C+4)+1) a_
  have e0:M.set a (iC (bE M a) (rn.map ((bE M a).getD col 0* ·)) 0)=M:=by
   unfold iC
   rw[bP,Γ,ψ]
   have haM:a<M.length:=by rw[h.len];exact haR
   simp[bE,bF,haM]
  rw[e0]at hl5
  rw[show(0:Int)=((0:Nat):Int) from rfl,hl5]
  exact h4 _ rfl
theorem zM(hR:R≤300)(hC:C≤300){col:Nat}(hcol:col<C)(h:Mx R C M)(hr:gE R C M L col):∀(d i k:Nat),i+d=R→L.length≤i→2000<k→(∀a,L.length≤a→a<i→(bE M a).getD col 0=0)→
 ∃(k':Nat)(M':List (List GF))(L':List Nat),k≤k'∧Mx R C M'∧gE R C M' L' (col+1)∧(∀z,iz R M' z↔iz R M z)∧
  ∀K,K=k+R*(C+4)+d+2→bH.l3 K ((R:Int),(C:Int),cs) (bi M.flatten) (ints L) (col:Int) (i:Int)=bH.l2 k' ((R:Int),(C:Int),cs) (bi M'.flatten) (ints L') ((col+1:Nat):Int)
 |0,i,k,hi,hl,hk,hz=>by
  refine⟨k+R*(C+4)+1,M,L,a_,h,O4 hr fun a ha hla=>hz a hla a_,fun z=>Iff.rfl,fun K hK=>?_⟩
  rw[hK,bH.l3,aQ iU,bT a_]
 |d+1,i,k,hi,hl,hk,hz=>by
  have hiR:i<R:=a_
  have hnR:L.length<R:=a_
  have hrl:=h.at hiR
  have hmul:(i+1)*C=i*C+C:=O_
  have hle:(i+1)*C≤R*C:=BF C a_
  have hmuln:(L.length+1)*C=L.length*C+C:=O_
  have hlen:(L.length+1)*C≤R*C:=BF C a_
  have hb:R*C≤300*300:=Φ hR hC
  by_cases h0:(bE M i).getD col 0=0
  ·obtain⟨k',M',L',h1,h2,h3,h4,h5⟩:=zM hR hC hcol h hr d (i+1) k a_ a_ hk fun a hla ha=>by
    by_cases e:a=i
    ·rw[e];exact h0
    exact hz a hla a_
   refine⟨k',M',L',h1,h2,h3,h4,fun K hK=>?_⟩
   rw[hK,show k+R*(C+4)+(d+1)+2=(k+R*(C+4)+d+2)+1 by omega,bH.l3]
   simp only[]
   rw[bh a_,wC hC,wM a_ hC,bT a_,wM a_ hC,aF Fb,ki h hiR,aF Nu,cI,h0,cH EJ]
   exact h5 _ rfl
  let rn:=(bE M i).map (inv ((bE M i).getD col 0)* ·)
  let M1:=M.set i (bE M L.length)
  let M2:=M1.set L.length (bE M i)
  let M3:=M2.set L.length rn
  have hrnl:rn.length=C:=by simp only[rn,x_];exact hrl
  have x1:Mx R C M1:=h.set i (h.at hnR)
  have x2:Mx R C M2:=x1.set L.length hrl
  have x3:Mx R C M3:=x2.set L.length hrnl
  have g3:∀a,bE M3 a=if a=L.length then rn else if a=i then bE M L.length else bE M a:=fun a=>by
   simp only[M3];rw[x2.lT hnR]
   split
   ·rfl
   rename_i e;simp only[M2];rw[x1.lT hnR,I_ e];simp only[M1];rw[h.lT hiR]
  have g2:bE M2 L.length=bE M i:=by simp only[M2];rw[x1.lT hnR,M_ rfl]
  obtain⟨k',M',q1,q2,q3,q4⟩:=vC (cs:=cs) (L:=L) hR hC rfl hnR hcol (rn:=rn) R 0 (k+d+1) M3 a_ x3 (by rw[g3,M_ rfl]) a_
  obtain⟨r1,r2⟩:=O3 (m':=M') hr hcol hiR hl h0 q2.len fun a ha=>by
   rw[q3 a ha,M_ (jc _),g3]
  refine⟨k',M',L++[col],a_,q2,r1,r2,fun K hK=>?_⟩
  rw[hK,show k+R*(C+4)+(d+1)+2=(k+R*(C+4)+d+2)+1 by omega,bH.l3]
  simp only[]
  rw[bh a_,wC hC,wM a_ hC,bT a_,wM a_ hC,aF Fb,ki h hiR,aF Nu,cI]
  have hne:¬((((bE M i).getD col 0).1:Nat):Int)=0:=fun e=>h0 (GF.ext (by simpa using e))
  rw[kg hne,aF Fb,iQ,wM (i:=L.length) a_ hC,bT a_,wM (i:=L.length+1) a_ hC,aF Fb]
  have ecl:dM.f (bi (bE M i))=some (bi (bE M i)):=by unfold dM.f;rw[aF Nu]
  rw[ecl,aJ,ki h hnR]
  have hsub:∀n:Nat,(((n+1)*C:Nat):Int).toNat-(((n*C:Nat):Int)).toNat=C:=fun n=>by
   rw[n_,n_,V_];omega
  have htn:∀n:Nat,((n*C:Nat):Int).toNat=n*C:=fun n=>n_ _
  rw[hsub,hsub,htn i,htn L.length,vG h hiR (h.at hnR) rfl,vG x1 hnR hrl rfl]
  have b2:=ki x2 hnR
  rw[htn L.length]at b2
  rw[aF aa3,b2,g2,aF Nu,cI,sX h0,aJ,aF aa3,aF aa3]
  simp only[]
  rw[nG (by rw[hrl];omega) (by rw[hrl];omega),aJ,vG x2 hnR hrnl rfl,show(0:Int)=((0:Nat):Int) from rfl,q4 _ a_]
  unfold bH.j1
  rw[aF (by rw[iQ];simp;omega),bT a_]
  have e:ints L++[(col:Int)]=ints (L++[col]):=by simp[ints]
  rw[e]
theorem zL(hR:R≤300)(hC:C≤300):∀(d j k:Nat)(M:List (List GF))(L:List Nat),j+d=C→Mx R C M→gE R C M L j→3000+d*(R*(C+4)+R+3)<k→
 ∃(M':List (List GF))(L':List Nat),bH.l2 k ((R:Int),(C:Int),cs) (bi M.flatten) (ints L) (j:Int)=some (((R:Int),(C:Int),bi M'.flatten),ints L')∧Mx R C M'∧gE R C M' L' C∧∀z,iz R M' z↔iz R M z
 |d,_,0,_,_,_,_,_,h=>a_
 |0,j,k+1,M,L,hj,h,hr,hk=>by
  obtain rfl:j=C:=a_
  refine⟨M,L,?_,h,hr,fun z=>Iff.rfl⟩
  rw[bH.l2,aQ iU]
  simp only[]
  rw[wC hC]
 |d+1,j,k+1,M,L,hj,h,hr,hk=>by
  have hfuel:(d+1)*(R*(C+4)+R+3)=d*(R*(C+4)+R+3)+(R*(C+4)+R+3):=O_
  have hLR:=hr.few
  obtain⟨k',M',L',h1,h2,h3,h4,h5⟩:=zM (cs:=cs) hR hC (show j<C by omega) h hr (R-L.length) L.length (k-(R*(C+4)+(R-L.length)+2)) a_ (aI _) a_ fun a ha hb=>a_
  obtain⟨M2,L2,e1,e2,e3,e4⟩:=zL hR hC d (j+1) k' M' L' a_ h2 h3 a_
  refine⟨M2,L2,?_,e2,e3,fun z=>(e4 z).trans (h4 z)⟩
  rw[bH.l2,bh iU,iQ,h5 k a_]
  exact e1
theorem O6(h:Mx R C M):gE R C M [] 0 where
 len:=h.len
 row i hi:=h.at hi
 few:=jc _
 lt a ha:=absurd ha (ET _)
 one a ha:=absurd ha (ET _)
 gQ i _ _ c hc:=absurd hc (ET _)
 nd a ha:=absurd ha (ET _)
theorem Iq(hR:R≤300)(hC:C≤300)(h:Mx R C M){k:Nat}(hk:5000+2*R+C*(R*(C+4)+R+3)<k):
 ∃(M':List (List GF))(L':List Nat),bH.f k ((R:Int),(C:Int),bi M.flatten)=some (((R:Int),(C:Int),bi M'.flatten),ints L')∧Mx R C M'∧gE R C M' L' C∧∀z,iz R M' z↔iz R M z:=by
 obtain⟨k,rfl⟩:∃k',k=k'+2*R+1:=⟨k-2*R-1,a_⟩
 obtain⟨M',L',e1,e2,e3,e4⟩:=zL (cs:=bi M.flatten) hR hC C 0 k M [] a_ h (O6 h) a_
 refine⟨M',L',?_,e2,e3,e4⟩
 unfold bH.f
 simp only[]
 rw[Md hR hC h.iO,aJ]
 simp only[ν,U_]
 have:=zK hR hC h R 0 k a_
 rw[bP]at this
 rw[show(0:Int)=((0:Nat):Int) from rfl]
 exact this.trans e1
theorem AU(L:List Nat)(hL:L.length<1000)(j:Nat):∀(d i k:Nat),i+d=L.length→d<k→(∀a,a<i→L.getD a 0≠j)→(∃a,a<L.length∧L.getD a 0=j∧fW.l0 k (ints L) (j:Int) (i:Int)=some (a:Int))∨((∀a,a<L.length→L.getD a 0≠j)∧fW.l0 k (ints L) (j:Int) (i:Int)=some (-1))
 |d,_,0,_,h,_=>a_
 |0,i,k+1,hi,hk,hn=>by
  right
  refine⟨fun a ha=>hn a a_,?_⟩
  rw[fW.l0,aQ G_]
 |d+1,i,k+1,hi,hk,hn=>by
  by_cases e:L.getD i 0=j
  ·left
   refine⟨i,a_,e,?_⟩
   rw[fW.l0,bh G_,aF G_,ints_at a_,bh a_]
  have:=AU L hL j d (i+1) k a_ a_ fun a ha=>by
   by_cases ea:a=i
   ·rw[ea];exact e
   exact hn a a_
  rw[fW.l0,bh G_,aF G_,ints_at a_,aQ a_,bT a_]
  exact this
theorem Gv{L:List Nat}{k:Nat}(hL:L.length<1000)(hk:1000<k)(j:Nat):((∃a,a<L.length∧L.getD a 0=j)∧jb.f k (ints L) (j:Int)=some true)∨((∀a,a<L.length→L.getD a 0≠j)∧jb.f k (ints L) (j:Int)=some false):=by
 have h:=AU L hL j L.length 0 k a_ a_ fun a ha=>a_
 unfold jb.f fW.f
 rcases h with⟨a,h1,h2,h3⟩|⟨h1,h2⟩
 ·left
  refine⟨⟨a,h1,h2⟩,?_⟩
  rw[show(0:Int)=((0:Nat):Int) from rfl,h3,aJ,W_ a_]
 right
 refine⟨h1,?_⟩
 rw[show(0:Int)=((0:Nat):Int) from rfl,h2,aJ,θ a_]
theorem BN(hR:R≤300)(hC:C≤300)(h:Mx R C M)(hr:gE R C M L C){j:Nat}(hj:j<C)(acc:List (List Int))(hacc:acc.length<1000):∀(d i k:Nat),i+d=L.length→
 dF.l1 (k+d+1) (((R:Int),(C:Int),bi M.flatten),ints L) acc (j:Int) (bi (nv M L C j i)) (i:Int)=dF.l0 k (((R:Int),(C:Int),bi M.flatten),ints L) (acc++[bi (nv M L C j L.length)]) ((j+1:Nat):Int)
 |0,i,k,hi=>by
  obtain rfl:i=L.length:=a_
  rw[dF.l1,aQ Gs,aF a_,bT a_]
 |d+1,i,k,hi=>by
  have hiL:i<L.length:=a_
  have hLR:=hr.few
  have hlt:=hr.lt i hiL
  have hle:(i+1)*C≤R*C:=BF C a_
  have hmul:(i+1)*C=i*C+C:=O_
  have hb:R*C≤300*300:=Φ hR hC
  have hcell:(bi M.flatten)=bi M.flatten:=rfl
  have hg:M.flatten.getD (i*C+j) 0=(bE M i).getD j 0:=by
   have:=vH M i h.row P5
   rw[←this]
   simp only[bF,IE,Ac]
   rw[M_ a_]
  rw[show k+(d+1)+1=(k+d+1)+1 by omega,dF.l1]
  simp only[]
  rw[bh G_,aF G_,wM a_ hC,show((i*C:Nat):Int)+(j:Int)=((i*C+j:Nat):Int) by omega,iB a_,aF Fb,ints_at hiL,aF (by rw[YO,rI];omega),cI,hg,n_,gY,bT a_]
  exact BN hR hC h hr hj acc hacc d (i+1) k a_
theorem wJ(hR:R≤300)(hC:C≤300)(h:Mx R C M)(hr:gE R C M L C):∀(d j k:Nat)(acc:List (List Int)),j+d=C→2000+d*(R+3)<k→acc.length+d<1000→
 ∃fs:List Nat,dF.l0 k (((R:Int),(C:Int),bi M.flatten),ints L) acc (j:Int)=some (acc++fs.map fun f=>bi (nv M L C f L.length))∧(∀f∈fs,f<C∧∀a<L.length,L.getD a 0≠f)∧(∀f,j≤f→f<C→(∀a<L.length,L.getD a 0≠f)→f∈fs)
 |d,_,0,_,_,h,_=>a_
 |0,j,k+1,acc,hj,hk,ha=>by
  refine⟨[],?_,j_,fun f h1 h2 _=>a_⟩
  rw[dF.l0,aQ iU];simp
 |d+1,j,k+1,acc,hj,hk,ha=>by
  have hjC:j<C:=a_
  have hLR:=hr.few
  have hfuel:(d+1)*(R+3)=d*(R+3)+R+3:=O_
  rcases Gv (k:=k) (show L.length<1000 by omega) a_ j with⟨⟨a,ha1,ha2⟩,e⟩|⟨hfree,e⟩
  ·obtain⟨fs,f1,f2,f3⟩:=wJ hR hC h hr d (j+1) k acc a_ a_ a_
   refine⟨fs,?_,f2,fun f h1 h2 h3=>?_⟩
   ·rw[dF.l0,bh iU]
    simp only[]
    rw[e,aJ,bT a_]
    exact f1
   by_cases ef:f=j
   ·exact absurd (ef▸ha2) (h3 a ha1)
   exact f3 f a_ h2 h3
  obtain⟨k2,hk2⟩:∃k2,k=k2+L.length+1:=⟨k-L.length-1,a_⟩
  obtain⟨fs,f1,f2,f3⟩:=wJ hR hC h hr d (j+1) k2 (acc++[bi (nv M L C j L.length)]) a_ a_ l_
  refine⟨j::fs,?_,fun f hf=>?_,fun f h1 h2 h3=>?_⟩
  ·rw[dF.l0,bh iU]
   simp only[]
   rw[e,aJ]
   simp only[U_]
   rw[aF a_,aF l_,n_,n_,gZ]
   have e1:(bi (List.replicate C 0)).set j 1=bi (nv M L C j 0):=by rw[nv,←gY];rfl
   have:=BN hR hC h hr hjC acc a_ L.length 0 k2 a_
   rw[e1,hk2,show(0:Int)=((0:Nat):Int) from rfl,this,f1]
   simp
  ·rcases X_.1 hf with rfl|hf
   ·exact⟨hjC,hfree⟩
   exact f2 f hf
  by_cases ef:f=j
  ·rw[ef];exact H_
  exact o_ _ (f3 f a_ h2 h3)
end
end Go.Proofs.YtmhkpafkadijgaaGreatDoor.Gw
namespace Go.Proofs.YtmhkpafkadijgaaGreatDoor.Gw
open GF
def sm(f:Nat→GF):List Nat→GF
 | []=>0
 |i::t=>f i+sm f t
theorem RA{f g:Nat→GF}:∀D:List Nat,(∀i∈D,f i=g i)→sm f D=sm g D
 | [],_=>rfl
 |a::t,h=>by rw[sm,sm,h a H_,RA t fun i hi=>h i (o_ _ hi)]
theorem Se{f:Nat→GF}(D:List Nat)(h:∀i∈D,f i=0):sm f D=0:=by
 induction D with
 |nil=>rfl
 |cons a t ih=>rw[sm,h a H_,zero_add,ih fun i hi=>h i (o_ _ hi)]
theorem SF(f g:Nat→GF):∀D:List Nat,sm (fun i=>f i+g i) D=sm f D+sm g D
 | []=>(add_zero 0).symm
 |a::t=>by rw[sm,sm,sm,SF f g t];ac_rfl
theorem SQ(c:GF)(f:Nat→GF):∀D:List Nat,sm (fun i=>c*f i) D=c*sm f D
 | []=>(mul_zero c).symm
 |a::t=>by rw[sm,sm,SQ c f t,mul_add]
theorem VA(f:Nat→Nat→GF)(A:List Nat):∀D:List Nat,sm (fun i=>sm (f i) A) D=sm (fun j=>sm (fun i=>f i j) D) A
 | []=>(Se A fun _ _=>rfl).symm
 |a::t=>by rw[sm,VA f A t,←SF];rfl
theorem VB{f:Nat→GF}{a:Nat}:∀D:List Nat,D.Nodup→a∈D→(∀i∈D,i≠a→f i=0)→sm f D=f a
 | [],_,h,_=>aS
 |b::t,hn,h,h0=>by
  have h1:=wI.1 hn
  by_cases e:b=a
  ·subst e
   rw[sm,Se t fun i hi=>h0 i (o_ _ hi) fun e=>h1.1 (e▸hi),add_zero]
  rw[sm,h0 b H_ e,zero_add,VB t h1.2 ((X_.1 h).resolve_left fun x=>e x.symm) fun i hi=>h0 i (o_ _ hi)]
theorem Yo{f:Nat→GF}{A D:List Nat}(h:A.Perm D):sm f A=sm f D:=by
 induction h with
 |nil=>rfl
 |cons a _ ih=>rw[sm,sm,ih]
 |swap a b l=>rw[sm,sm,sm,sm];ac_rfl
 |trans _ _ h1 h2=>exact h1.trans h2
theorem VE{a:Nat}{t R:List Nat}(hL:(a::t).Nodup)(hs:∀i∈a::t,i∈R):∀i∈t,i∈R.erase a:=fun i hi=>
 (List.mem_erase_of_ne fun e=>(wI.1 hL).1 (by rw[←e];exact hi)).2 (hs i (o_ _ hi))
theorem T2{f:Nat→GF}:∀L R:List Nat,L.Nodup→R.Nodup→(∀i∈L,i∈R)→(∀i∈R,i ∉ L→f i=0)→sm f R=sm f L
 | [],R,_,_,_,h=>Se R fun i hi=>h i hi j_
 |a::t,R,hL,hR,hs,h=>by
  rw[Yo (List.perm_cons_erase (hs a H_)),sm,sm,T2 t (R.erase a) (wI.1 hL).2 (hR.erase a) (VE hL hs) fun i hi hit=>?_]
  refine h i (List.mem_of_mem_erase hi) fun hm=>?_
  rcases X_.1 hm with rfl|hm
  ·exact absurd hi (hR.not_mem_erase)
  exact hit hm
theorem Ts:∀L R:List Nat,L.Nodup→(∀i∈L,i∈R)→L.length≤R.length
 | [],_,_,_=>jc _
 |a::t,R,hL,hs=>by
  have h1:=Ts t (R.erase a) (wI.1 hL).2 (VE hL hs)
  have h2:=List.length_erase_of_mem (hs a H_)
  have h3:=List.length_pos_of_mem (hs a H_)
  simp only[r_];omega
theorem T6(x:Nat→GF):∀(D:List Nat)(c:Nat→GF),(D.map x).Nodup→(∀j<D.length,sm (fun i=>c i*pow (x i) j) D=0)→∀i∈D,c i=0
 | [],_,_,_=>j_
 |a::t,c,hn,h=>by
  have h1:=wI.1 (show(x a::t.map x).Nodup from hn)
  have ih:=T6 x t (fun i=>c i*(x i+x a)) h1.2 fun j hj=>by
   have e1:=h j l_
   have e2:=h (j+1) l_
   have e3:=SQ (x a) (fun i=>c i*pow (x i) j) (a::t)
   rw[e1,mul_zero]at e3
   have e4:=SF (fun i=>c i*pow (x i) (j+1)) (fun i=>x a*(c i*pow (x i) j)) (a::t)
   rw[e2,e3,add_zero,sm]at e4
   have e5:c a*pow (x a) (j+1)+x a*(c a*pow (x a) j)=0:=by
    rw[pow,show c a*(pow (x a) j*x a)=x a*(c a*pow (x a) j) by ac_rfl,eE]
   rw[e5,zero_add]at e4
   rw[←e4]
   refine RA t fun i _=>?_
   rw[pow,mul_add,add_mul];congr 1<;>ac_rfl
  have ht:∀i∈t,c i=0:=fun i hi=>(mul_eq_zero (ih i hi)).resolve_right fun e=>h1.1 (by rw[←lB e];exact uV.2 ⟨i,hi,rfl⟩)
  intro i hi
  rcases X_.1 hi with rfl|hi
  ·have:=h 0 j_
   rw[sm,Se t fun j hj=>by rw[ht j hj,zero_mul],add_zero,pow,mul_one]at this
   exact this
  exact ht i hi
theorem YC{x c:Nat→GF}{D:List Nat}{n:Nat}(hx:∀i∈D,x i≠0)(hn:(D.map x).Nodup)(h:∀j,n≤j→j<n+D.length→sm (fun i=>c i*pow (x i) j) D=0):∀i∈D,c i=0:=fun i hi=>by
 have:=T6 x D (fun i=>c i*pow (x i) n) hn (fun j hj=>by
  rw[←h (n+j) a_ a_]
  exact RA D fun i _=>by rw[pow_add,mul_assoc]) i hi
 exact(mul_eq_zero this).resolve_right (oh (hx i hi) n)
theorem Tx{p q:List GF}(hp:p.length≤256)(hq:q.length≤256)(h:∀x,pv p x=pv q x)(j:Nat):p.getD j 0=q.getD j 0:=by
 rw[←jR p,←jR q,MA hp hq h]
theorem R1{p:List GF}{j:Nat}(h:p.length≤j):p.getD j 0=0:=by simp[bF,τ h]
theorem U7(t:GF):∀(p:List GF)(n s:Nat),p.length≤n→sm (fun j=>p.getD (j-s) 0*pow t j) (List.range' s n)=pow t s*pv p t
 | [],n,s,_=>by rw[pv,mul_zero];exact Se _ fun j _=>by rw[R1 j_,zero_mul]
 |c::p,0,s,h=>aS
 |c::p,n+1,s,h=>by
  rw[LU,sm,Ff,LP,pv,mul_add,←mul_assoc,←pow,←U7 t p n (s+1) sW,mul_comm c]
  congr 1
  refine RA _ fun j hj=>?_
  have:=List.mem_range'_1.1 hj
  rw[show j-s=(j-(s+1))+1 by omega,bY]
theorem SO{p:List GF}{n:Nat}(h:p.length≤n)(t:GF):pv p t=sm (fun j=>p.getD j 0*pow t j) (List.range n):=by
 have:=U7 t p n 0 h
 rw[pow,one_mul]at this
 rw[←this,PY];rfl
theorem RG(c:GF)(p q:List GF):∀j,(fH (c::p) q).getD j 0=c*q.getD j 0+(match j with|0=>0|j+1=>(fH p q).getD j 0)
 |0=>by rw[fH,qe,pV];rfl
 |j+1=>by rw[fH,qe,pV,bY]
theorem TL(p q t:List GF)(j:Nat):(fH (pad p q) t).getD j 0=(fH p t).getD j 0+(fH q t).getD j 0:=by
 induction p generalizing q j with
 |nil=>simp[pad,fH,zero_add]
 |cons a p ih=>
  cases q with
  |nil=>simp[pad,fH,add_zero]
  |cons b q=>
   rw[pad,RG,RG,RG,add_mul]
   cases j with
   |zero=>simp only[add_zero]
   |succ j=>simp only;rw[ih q j];ac_rfl
theorem Tf(a:GF)(t:List GF):∀(p:List GF)(j:Nat),(fH (p.map (a* ·)) t).getD j 0=a*(fH p t).getD j 0
 | [],j=>by simp[fH,mul_zero]
 |c::p,j=>by
  rw[ι,RG,RG,mul_add,mul_assoc]
  cases j with
  |zero=>simp only[mul_zero]
  |succ j=>simp only;rw[Tf a t p j]
theorem U4(p t:List GF):∀n j,(fH (List.replicate n 0++p) t).getD j 0=if j<n then 0 else(fH p t).getD (j-n) 0
 |0,j=>j_
 |n+1,j=>by
  rw[FU,Bv,RG,zero_mul,zero_add]
  cases j with
  |zero=>simp
  |succ j=>
   simp only;rw[U4 p t n j]
   by_cases h:j<n
   ·rw[M_ h,M_ a_]
   rw[I_ h,I_ a_];congr 1;omega
theorem Ti{p:List GF}(h:∀c∈p,c=0)(t:List GF)(j:Nat):(fH p t).getD j 0=0:=by
 induction p generalizing j with
 |nil=>simp[fH]
 |cons c p ih=>
  rw[RG,h c H_,zero_mul,zero_add]
  cases j with
  |zero=>rfl
  |succ j=>exact ih (fun c hc=>h c (o_ _ hc)) j
theorem Xu(p q t:List GF)(h:∀c∈q,c=0):∀j,(fH (p++q) t).getD j 0=(fH p t).getD j 0:=by
 induction p with
 |nil=>intro j;rw[ψ,Ti h];simp[fH]
 |cons c p ih=>
  intro j
  rw[Bv,RG,RG]
  cases j with
  |zero=>rfl
  |succ j=>simp only;rw[ih j]
theorem Tg(p t:List GF)(j:Nat):(fH (aW p) t).getD j 0=(fH p t).getD j 0:=by
 obtain⟨m,h1,_⟩:=oe _ p rfl
 conv=>rhs;rw[h1]
 rw[Xu _ _ _ fun c hc=>(List.mem_replicate.1 hc).2]
section
variable{D:List Nat}{z x:Nat→GF}{M:Nat}{q:List GF}
theorem XD{a:GF}(h:a≠0)(j:Nat):pow a (j+1)*inv a=pow a j:=by rw[pow,mul_assoc,gN h,mul_one]
theorem cs{e:Nat}(hx:∀i∈D,x i≠0)(hq:∀k,e≤k→k<M→q.getD k 0=sm (fun i=>z i*pow (x i) k) D):∀(l:List GF)(j:Nat),j<M→e+l.length≤j+1→(fH l q).getD j 0=sm (fun i=>z i*pv l (inv (x i))*pow (x i) j) D
 | [],j,_,_=>by rw[fH,Se D fun i _=>by rw[pv,mul_zero,zero_mul]];simp
 |c::l,j,hj,hl=>by
  simp only[r_]at hl
  rw[RG,hq j a_ hj,←SQ]
  have e0:sm (fun i=>z i*pv (c::l) (inv (x i))*pow (x i) j) D=sm (fun i=>c*(z i*pow (x i) j)) D+sm (fun i=>inv (x i)*(z i*pv l (inv (x i))*pow (x i) j)) D:=by
   rw[←SF]
   refine RA D fun i _=>?_
   rw[pv,mul_add,add_mul];congr 1<;>ac_rfl
  rw[e0]
  cases j with
  |zero=>
   obtain rfl:l=[]:=Ψ a_
   simp only
   rw[Se D (f:=fun i=>inv (x i)*(z i*pv [] (inv (x i))*pow (x i) 0)) fun i _=>by rw[pv,mul_zero,zero_mul,mul_zero]]
  |succ j=>
   simp only
   rw[cs hx hq l j a_ a_]
   congr 1
   refine RA D fun i hi=>?_
   rw[←XD (hx i hi) j];ac_rfl
def pr(x:GF):List GF→Nat→GF
 | [],_=>0
 |c::p,j=>c*pow x j+(match j with|0=>0|j+1=>pr x p j)
theorem cs0(hq:∀k<M,q.getD k 0=sm (fun i=>z i*pow (x i) k) D):∀(l:List GF)(j:Nat),j<M→(fH l q).getD j 0=sm (fun i=>z i*pr (x i) l j) D
 | [],j,_=>by rw[fH,Se D fun i _=>by rw[pr,mul_zero]];simp
 |c::l,j,hj=>by
  rw[RG,hq j hj,←SQ]
  cases j with
  |zero=>rw[add_zero];exact RA D fun i _=>by rw[pr,add_zero];ac_rfl
  |succ j=>
   simp only
   rw[cs0 hq l j a_,←SF]
   exact RA D fun i _=>by rw[pr,mul_add];congr 1;ac_rfl
theorem U6{x y:GF}(hxy:x*y=1):∀(P:List GF)(j:Nat),pr x P j=pow x j*pv P y+y*(gy y P).getD j 0
 | [],j=>by simp[pr,pv,gy,mul_zero,add_zero]
 |c::P,j=>by
  have hs:(gy y (c::P)).getD j 0=(match j with|0=>pv P y|j+1=>(gy y P).getD j 0):=by
   cases P with
   |nil=>cases j<;>simp[gy,pv]
   |cons d P=>cases j<;>simp[gy]
  rw[hs,pv]
  cases j with
  |zero=>simp only[pr,pow,one_mul,mul_one,add_zero];rw[add_assoc,eE,add_zero]
  |succ j=>
   simp only[pr]
   rw[U6 hxy P j,mul_add,add_assoc]
   congr 1;·exact mul_comm _ _
   congr 1
   rw[pow,show pow x j*x*(y*pv P y)=x*y*(pow x j*pv P y) by ac_rfl,hxy,one_mul]
theorem TM(a:GF):∀P:List GF,po a P=pv (gy a P) a
 | []=>rfl
 | [c]=>rfl
 |c::d::r=>by
  rw[gy,pv,←TM a (d::r),Ca a (d::r),po,add_assoc,eE,add_zero]
theorem XB{n:Nat}{p:List GF}{u:Nat→GF}{Q:Nat→List GF}(hp:p.length≤n)(hQ:∀i∈D,(Q i).length≤n)(h:∀j<n,p.getD j 0=sm (fun i=>u i*(Q i).getD j 0) D)(t:GF):pv p t=sm (fun i=>u i*pv (Q i) t) D:=by
 rw[SO hp,RA D fun i hi=>by rw[SO (hQ i hi) t,←SQ],VA]
 refine RA _ fun j hj=>?_
 rw[h j (φ.1 hj),mul_comm,←SQ]
 exact RA D fun i _=>by ac_rfl
theorem WB{P O:List GF}{L:List Nat}(hn:L.Nodup)(hx:∀i∈L,x i≠0)(hi:∀i∈L,∀j∈L,inv (x i)=inv (x j)→i=j)(hq:∀k<M,q.getD k 0=sm (fun i=>z i*pow (x i) k) L)(hP:P.length≤M+1)(h0:∀i∈L,pv P (inv (x i))=0)(hO:O.length≤M)(hOj:∀j<M,O.getD j 0=(fH P q).getD j 0){i:Nat}(hiL:i∈L):pv O (inv (x i))=z i*inv (x i)*po (inv (x i)) P:=by
 have e1:=XB (D:=L) (u:=fun i=>z i*inv (x i)) (Q:=fun i=>gy (inv (x i)) P) hO (fun i _=>by rw[xH];omega) (fun j hj=>by
  rw[hOj j hj,cs0 hq P j hj]
  refine RA L fun k hk=>?_
  rw[U6 (gN (hx k hk)),h0 k hk,mul_zero,zero_add,mul_assoc]) (inv (x i))
 rw[e1,VB L hn hiL fun k hk hki=>?_,TM]
 have e2:=xI (inv (x k)) (inv (x i)) P
 rw[h0 k hk,h0 i hiL,zero_add]at e2
 rw[(mul_eq_zero e2.symm).resolve_left fun e=>hki (hi k hk i hiL (lB e).symm),mul_zero]
end
theorem Xw{P ys:List GF}(hn:ys.Nodup)(hl:P.length≤ys.length+1)(h0:∀y∈ys,pv P y=0)(hP:P.getD 0 0≠0){y:GF}(hy:y∈ys):po y P≠0:=fun e=>by
 rw[TM]at e
 have hz:=rV ys (gy y P) hn (by rw[xH];omega) fun t ht=>by
  by_cases ety:t=y
  ·rw[ety];exact e
  have e2:=xI y t P
  rw[h0 t ht,h0 y hy,zero_add]at e2
  exact(mul_eq_zero e2.symm).resolve_left fun e=>ety (lB e)
 have hp:=Dt y P hz (h0 y hy)
 cases P with
 |nil=>exact hP rfl
 |cons c P=>exact hP (hp c H_)
theorem Xj{P ys:List GF}(hn:ys.Nodup)(hl:P.length≤ys.length+1)(h0:∀y∈ys,pv P y=0)(hP:P.getD 0 0≠0){t:GF}(h:pv P t=0):t∈ys:=by
 refine xq fun ht=>?_
 have hz:=rV (t::ys) P (wI.2 ⟨ht,hn⟩) (by simpa using hl) fun y hy=>by
  rcases X_.1 hy with rfl|hy
  ·exact h
  exact h0 y hy
 cases P with
 |nil=>exact hP rfl
 |cons c P=>exact hP (hz c H_)
structure RN (D:List Nat) (z x:Nat→GF) (e:Nat) (M:Nat) (T:List GF):Prop where
 nz:∀i∈D,x i≠0
 zz:∀i∈D,z i≠0
 nd:(D.map x).Nodup
 sum:∀k,e≤k→k<M→T.getD k 0=sm (fun i=>z i*pow (x i) k) D
theorem RN.zero{D:List Nat}{z x:Nat→GF}{e M:Nat}{T l:List GF}(h:RN D z x e M T){n:Nat}(hn:n+D.length≤M)(hl:e+l.length≤n+1)(h0:∀j,n≤j→j<n+D.length→(fH l T).getD j 0=0):∀i∈D,pv l (inv (x i))=0:=fun i hi=>
 (mul_eq_zero (YC (c:=fun i=>z i*pv l (inv (x i))) (n:=n) h.nz h.nd (fun j h1 h2=>by rw[←cs h.nz h.sum l j a_ a_];exact h0 j h1 h2) i hi)).resolve_left (h.zz i hi)
theorem RN.none{D:List Nat}{z x:Nat→GF}{e M j:Nat}{T l:List GF}(h:RN D z x e M T)(hj:j<M)(hl:e+l.length≤j+1)(h0:∀i∈D,pv l (inv (x i))=0):(fH l T).getD j 0=0:=by
 rw[cs h.nz h.sum l j hj hl]
 exact Se D fun i hi=>by rw[h0 i hi,mul_zero,zero_mul]
structure Sg (T:List GF) (i:Nat) (l:List GF) (n:Nat) (was:List GF) (lack:GF) (ago:Nat):Prop where
 one:l.getD 0 0=1
 deg:l.length≤n+1
 le:n≤i
 gen:∀j,n≤j→j<i→(fH l T).getD j 0=0
 lk:lack≠0
 a0:0<ago
 w:∃nw,n+nw+ago=i+1∧was.length≤nw+1∧(∀j,nw≤j→j+ago<i→(fH was T).getD j 0=0)∧(ago≤i→(fH was T).getD (i-ago) 0=lack)
theorem XP(T:List GF):Sg T 0 [1] 0 [1] 1 1:=
 ⟨rfl,j_,aI _,fun j _ h=>absurd h (ET _),tX,f_,0,rfl,j_,fun j _ h=>absurd h (ET _),fun h=>absurd h f_⟩
theorem XO{T l was:List GF}{i n ago:Nat}{lack:GF}(h:Sg T i l n was lack ago)(h0:(fH l T).getD i 0=0):Sg T (i+1) l n was lack (ago+1):=by
 obtain⟨nw,w1,w2,w3,w4⟩:=h.w
 refine⟨h.one,h.deg,Nat.le_succ_of_le h.le,fun j h1 h2=>?_,h.lk,Nat.succ_pos _,nw,a_,w2,fun j h1 h2=>w3 j h1 a_,fun h1=>?_⟩
 ·by_cases e:j=i
  ·rw[e];exact h0
  exact h.gen j h1 a_
 rw[←w4 a_];congr 1;omega
theorem XL{T l l' was:List GF}{i n ago:Nat}{lack:GF}(h:Sg T i l n was lack ago)(h0:(fH l T).getD i 0≠0)(e1:∀j,(fH l' T).getD j 0=(fH l T).getD j 0+(fH l T).getD i 0*inv lack*(if j<ago then 0 else(fH was T).getD (j-ago) 0))(e2:l'.length≤max l.length (ago+was.length))(e3:l'.getD 0 0=l.getD 0 0):
 (i<2*n→Sg T (i+1) l' n was lack (ago+1))∧(2*n≤i→Sg T (i+1) l' (i+1-n) l ((fH l T).getD i 0) 1):=by
 obtain⟨nw,w1,w2,w3,w4⟩:=h.w
 have hd:=h.deg
 have hle:=h.le
 have ha:=h.a0
 have key:∀j,n≤j→ago+nw≤j→j≤i→(j=i→ago≤i)→(fH l' T).getD j 0=0:=fun j h1 h2 h3 h4=>by
  rw[e1 j,I_ a_]
  by_cases e:j=i
  ·rw[e,w4 (h4 e),mul_assoc,mul_comm (inv lack),gN h.lk,mul_one,eE]
  rw[h.gen j h1 a_,w3 (j-ago) a_ a_,mul_zero,add_zero]
 refine⟨fun hc=>⟨by rw[e3,h.one],a_,a_,fun j h1 h2=>key j h1 a_ a_ fun _=>a_,h.lk,Nat.succ_pos _,nw,a_,w2,fun j h1 h2=>w3 j h1 a_,fun h1=>?_⟩,
  fun hc=>⟨by rw[e3,h.one],a_,a_,fun j h1 h2=>key j a_ a_ a_ fun _=>a_,h0,f_,n,a_,hd,fun j h1 h2=>h.gen j h1 a_,fun _=>rfl⟩⟩
 rw[←w4 a_];congr 1;omega
theorem XN{D:List Nat}{z x:Nat→GF}{T l was:List GF}{i n ago M:Nat}{lack:GF}(h:Sg T i l n was lack ago)(hT:RN D z x 0 M T)(hi:i<M)(h0:(fH l T).getD i 0≠0):i+1-n≤D.length:=by
 have hd:=h.deg
 refine xq fun hc=>h0 ?_
 refine hT.none hi a_ (hT.zero (n:=n) a_ a_ fun j h1 h2=>h.gen j h1 a_)
theorem XM{D:List Nat}{z x:Nat→GF}{T l was:List GF}{n ago M:Nat}{lack:GF}(h:Sg T M l n was lack ago)(hT:RN D z x 0 M T)(hn:n≤D.length)(h2:2*D.length≤M):∀i∈D,pv l (inv (x i))=0:=by
 have hd:=h.deg
 exact hT.zero (n:=n) a_ a_ fun j h1 h2=>h.gen j h1 a_
theorem TK{A B:List GF}{M:Nat}(h:∀j<M,A.getD j 0=B.getD j 0):∀(q:List GF)(j:Nat),j<M→(fH q A).getD j 0=(fH q B).getD j 0
 | [],j,_=>by simp[fH]
 |c::q,j,hj=>by
  rw[RG,RG,h j hj]
  cases j with
  |zero=>rfl
  |succ j=>simp only;rw[TK h q j a_]
theorem Xv(p t:List GF)(j:Nat):(fH (0::p) t).getD j 0=(match j with|0=>0|j+1=>(fH p t).getD j 0):=by
 rw[RG,zero_mul,zero_add];all_goals (cases j<;>rfl)
theorem TJ(v t:List GF):∀(q:List GF)(j:Nat),(fH (fH q v) t).getD j 0=(fH q (fH v t)).getD j 0
 | [],j=>by simp[fH]
 |c::q,j=>by
  rw[RG,fH,TL,Tf,Xv]
  cases j with
  |zero=>rfl
  |succ j=>simp only;rw[TJ v t q j]
structure Sb (T:List GF) (M:Nat) (r0 r1 v0 v1:List GF):Prop where
 c:∀x,pv r0 x*pv v1 x+pv r1 x*pv v0 x=pow x M
 t0:∀j<M,r0.getD j 0=(fH v0 T).getD j 0
 t1:∀j<M,r1.getD j 0=(fH v1 T).getD j 0
 l0:r1.length<r0.length
 lv:v0.length+r1.length≤M+2
 lm:v1.length+r0.length≤M+2
 lr:r0.length≤M+1
theorem Ya{T:List GF}{M:Nat}(h:T.length≤M):Sb T M (List.replicate M 0++[1]) T [] [1] where
 c x:=by rw[NB];simp only[pv,mul_zero,add_zero,mul_one]
 t0 j hj:=by simp[fH,bF,ξ,hj]
 t1 j hj:=by
  rw[RG,one_mul]
  cases j<;>simp[fH,add_zero]
 l0:=l_
 lv:=l_
 lm:=l_
 lr:=j_
theorem Yb{T:List GF}{M:Nat}{r0 r1 v0 v1 r2 v2 q:List GF}(h:Sb T M r0 r1 v0 v1)(hM:M≤100)(h1:r1≠ [])(hr:r2.length<r1.length)(hq:q.length+r1.length≤r0.length+1)(e1:∀x,pv r0 x=pv q x*pv r1 x+pv r2 x)(hv:v2.length≤max v0.length (q.length+v1.length-1))(e2:∀x,pv v2 x=pv v0 x+pv q x*pv v1 x):Sb T M r1 r2 v1 v2:=by
 have a1:=h.l0;have a2:=h.lv;have a3:=h.lm
 have a0:=Bz.2 h1
 have lp:∀p q:List GF,(fH p q).length≤p.length+q.length:=fun p q=>by
  by_cases e:q=[]
  ·subst e
   have:∀p:List GF,(fH p []).length≤p.length:=by
    intro p;induction p with
    |nil=>simp[fH]
    |cons c p ih=>rw[fH,og];simp;omega
   have:=this p;omega
  have:=tY p q e;omega
 have l1:=lp q r1
 have l2:=lp q v1
 have g1:=Tx (p:=r2) (q:=pad r0 (fH q r1)) a_ PU fun x=>by rw[mU,rP,e1 x,add_comm (pv q x*pv r1 x),add_assoc,eE,add_zero]
 have g2:=Tx (p:=v2) (q:=pad v0 (fH q v1)) a_ PU fun x=>by rw[mU,rP,e2 x]
 refine⟨fun x=>?_,h.t1,fun j hj=>?_,hr,a_,a_,by have:=h.lr;omega⟩
 ·rw[←h.c x,e2 x,e1 x,mul_add,add_mul]
  rw[show pv q x*pv r1 x*pv v1 x=pv r1 x*(pv q x*pv v1 x) by ac_rfl];ac_rfl
 rw[g1 j,qe,h.t0 j hj,TK h.t1 q j hj,←TJ,←TL]
 have key:∀(A B:List GF),(∀j,A.getD j 0=B.getD j 0)→∀j,(fH A T).getD j 0=(fH B T).getD j 0:=by
  intro A
  induction A with
  |nil=>
   intro B hB j;rw[show(fH [] T).getD j 0=0 by simp[fH],Ti fun c hc=>?_]
   obtain⟨i,hi,rfl⟩:=ES hc
   have:=hB i
   simpa [bF,hi] using this.symm
  |cons a A ih=>
   intro B hB j
   cases B with
   |nil=>
    rw[show(fH [] T).getD j 0=0 by simp[fH],Ti fun c hc=>?_]
    obtain⟨i,hi,rfl⟩:=ES hc
    have:=hB i
    rw[bF,C_ hi]at this
    simpa using this
   |cons b B=>
    rw[RG,RG,show a=b by simpa using hB 0]
    cases j with
    |zero=>rfl
    |succ j=>simp only;rw[ih B (fun j=>by simpa using hB (j+1)) j]
 exact key _ _ (fun j=>(g2 j).symm) j
theorem X9{T:List GF}{M:Nat}{r0 r1 v0 v1:List GF}(h:Sb T M r0 r1 v0 v1):Sb T M r0 (aW r1) v0 v1 where
 c x:=by rw[fG];exact h.c x
 t0:=h.t0
 t1 j hj:=by rw[jR];exact h.t1 j hj
 l0:=Nat.lt_of_le_of_lt (gP r1) h.l0
 lv:=Lh (Nat.add_le_add_left (gP r1) _) h.lv
 lm:=h.lm
 lr:=h.lr
theorem Vz{T:List GF}{M:Nat}{r0 r1 v0 v1:List GF}(h:Sb T M r0 r1 v0 v1)(hr:r1.length≤M):¬ ∀c∈v1,c=0:=fun hz=>by
 have h1:∀x,pv v1 x=0:=fun x=>by rw[←fG,uX hz];rfl
 have h2:pv r1 1=0:=by
  rw[SO hr]
  exact Se _ fun j hj=>by rw[h.t1 j (φ.1 hj),Ti hz,zero_mul]
 have h3:=h.c 1
 rw[h1,h2,mul_zero,zero_mul,add_zero]at h3
 exact oh tX M h3.symm
section
variable{D:List Nat}{z x:Nat→GF}{T:List GF}{e M:Nat}{r0 r1 v0 v1:List GF}
theorem X8(hT:RN D z x e M T)(h:Sb T M r0 r1 v0 v1)(hD:2*D.length+e≤M)(hv:v1.length≤D.length+1)(hn:aW r1=r1)(hr:r1.length≤M)(hs:D.length+e<r1.length):M+1≤r1.length+D.length:=by
 refine xq fun hc=>?_
 have h0:=hT.zero (l:=v1) (n:=M-D.length) a_ a_ fun j h1 h2=>by
  rw[←h.t1 j a_,R1 a_]
 have hne:r1≠ []:=fun e=>by rw[e]at hs;simp at hs
 have h1:=pY (p:=r1) (by rw[hn];exact hne)
 rw[hn,h.t1 _ a_,hT.none a_ a_ h0]at h1
 exact h1 rfl
theorem X7(hT:RN D z x e M T)(h:Sb T M r0 r1 v0 v1)(hv:v1.length≤D.length+1){s:Nat}(hs:s+D.length≤M)(hr:r1.length≤s)(he:e+D.length≤s):(∀i∈D,pv v1 (inv (x i))=0)∧v1.getD 0 0≠0:=by
 have h0:=hT.zero (l:=v1) (n:=s) hs a_ fun j h1 h2=>by rw[←h.t1 j a_,R1 a_]
 refine⟨h0,fun e0=>Vz h a_ ?_⟩
 have hnd:((0:GF)::(D.map x).map inv).Nodup:=by
  refine wI.2 ⟨fun hm=>?_,?_⟩
  ·obtain⟨y,hy,e⟩:=uV.1 hm
   obtain⟨i,hi,rfl⟩:=uV.1 hy
   exact tu (hT.nz i hi) e
  refine Oj.2 ((Cf.1 hT.nd).imp_of_mem ?_)
  intro a b ha hb hab e
  obtain⟨i,hi,rfl⟩:=uV.1 ha
  obtain⟨j,hj,rfl⟩:=uV.1 hb
  exact hab (by rw[←inv_inv (hT.nz i hi),e,inv_inv (hT.nz j hj)])
 refine rV _ v1 hnd (by simpa using hv) fun t ht=>?_
 rcases X_.1 ht with rfl|ht
 ·cases v1 with
  |nil=>rfl
  |cons c p=>rw[pv,zero_mul,add_zero];exact e0
 obtain⟨y,hy,rfl⟩:=uV.1 ht
 obtain⟨i,hi,rfl⟩:=uV.1 hy
 exact h0 i hi
end
end Go.Proofs.YtmhkpafkadijgaaGreatDoor.Gw
