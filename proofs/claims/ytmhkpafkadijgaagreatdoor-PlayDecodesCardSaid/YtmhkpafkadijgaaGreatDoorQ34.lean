/- A part of the proof of Rows.PlayDecodesCardSaid; the conditions are that card's own. -/
import Derived.Test.YtmhkpafkadijgaaGreatDoorQ33
import Derived.Test.YtmhkpafkadijgaaGreatDoorQ21
set_option linter.all false
namespace Go.Proofs.YtmhkpafkadijgaaGreatDoor.Gw
open GF
def wr(N:Nat)(r W:List GF)(e:List Nat):List Nat:=(List.range N).filter fun i=>!decide (r.getD i 0=W.getD i 0)&&!decide (i∈e)
theorem Sf{N:Nat}{r W:List GF}{e:List Nat}{i:Nat}:i∈wr N r W e↔i<N∧r.getD i 0≠W.getD i 0∧i ∉ e:=by simp[wr,Lt]
theorem VR(N:Nat)(r W:List GF)(e:List Nat):(wr N r W e).Nodup:=List.nodup_range.filter _
structure SI (a:GF) (N M B:Nat) (r W:List GF) (e:List Nat):Prop where
 len:W.length=N
 root:∀j<M,pv W (pow a (B+j))=0
 fits:2*(wr N r W e).length+e.length≤M
theorem Xz(a:GF)(B i j:Nat):pow (pow a (B+j)) i=pow a (i*B)*pow (pow a i) j:=by
 rw[wZ,wZ,←pow_add];congr 1;rw[V_,FX B,FX j]
theorem Tj(a:GF)(B j:Nat){p:List GF}{N:Nat}(h:p.length≤N):pv p (pow a (B+j))=sm (fun i=>p.getD i 0*pow a (i*B)*pow (pow a i) j) (List.range N):=by
 rw[SO h]
 exact RA _ fun i _=>by rw[Xz,mul_assoc]
theorem Tr(f:Nat→GF):∀A D:List Nat,sm f (A++D)=sm f A+sm f D
 | [],D=>by rw[ψ,sm,zero_add]
 |a::t,D=>by rw[Bv,sm,sm,Tr f t D,add_assoc]
section
variable{a:GF}{N M B:Nat}{r W V:List GF}{e:List Nat}
variable(ha:a≠0)(hp:∀i<N,∀j<N,pow a i=pow a j→i=j)
include ha hp
theorem SY{D:List Nat}(hD:D.Nodup)(h:∀i∈D,i<N):(D.map (pow a)).Nodup:=by
 refine Oj.2 ((Cf.1 hD).imp_of_mem ?_)
 intro i j hi hj hij e
 exact hij (hp i (h i hi) j (h j hj) e)
theorem Xk{D:List Nat}(hD:D.Nodup)(h:∀i∈D,i<N):(D.map fun i=>inv (pow a i)).Nodup:=by
 refine Oj.2 ((Cf.1 hD).imp_of_mem ?_)
 intro i j hi hj hij e
 exact hij (hp i (h i hi) j (h j hj) (by rw[←inv_inv (oh ha i),e,inv_inv (oh ha j)]))
theorem Xh(h:SI a N M B r W e)(h':SI a N M B r V e):W=V:=by
 let S:=(List.range N).filter fun i=>!decide (W.getD i 0=V.getD i 0)
 have hS:∀i,i∈S↔i<N∧W.getD i 0≠V.getD i 0:=fun i=>by simp[S,Lt]
 have hSn:S.Nodup:=List.nodup_range.filter _
 have hl:S.length≤M:=by
  have:=Ts S (wr N r W e++wr N r V e++e) hSn fun i hi=>by
   obtain⟨h1,h2⟩:=(hS i).1 hi
   by_cases he:i∈e
   ·exact Gx _ he
   refine FC _ ?_
   by_cases hw:r.getD i 0=W.getD i 0
   ·exact Gx _ (Sf.2 ⟨h1,fun x=>h2 (hw.symm.trans x),he⟩)
   exact FC _ (Sf.2 ⟨h1,hw,he⟩)
  have h1:=h.fits;have h2:=h'.fits
  simp only[E_]at this
  omega
 have hz:∀i∈S,(W.getD i 0+V.getD i 0)*pow a (i*B)=0:=by
  refine T6 (pow a) S _ (SY ha hp hSn fun i hi=>((hS i).1 hi).1) fun j hj=>?_
  rw[←T2 S (List.range N) hSn aaQ (fun i hi=>φ.2 ((hS i).1 hi).1) fun i hi hn=>?_,RA (g:=fun i=>W.getD i 0*pow a (i*B)*pow (pow a i) j+V.getD i 0*pow a (i*B)*pow (pow a i) j) _ fun i _=>by rw[add_mul,add_mul],SF,←Tj a B j (NF h.len),←Tj a B j (NF h'.len),h.root j a_,h'.root j a_,add_zero]
  have:W.getD i 0=V.getD i 0:=xq fun hc=>hn ((hS i).2 ⟨φ.1 hi,hc⟩)
  rw[this,eE,zero_mul,zero_mul]
 refine vJ (h.len.trans h'.len.symm) fun j=>?_
 by_cases hj:j<N
 ·refine xq fun hc=>hc (lB ((mul_eq_zero (hz j ((hS j).2 ⟨hj,hc⟩))).resolve_right (oh ha _)))
 have h1:=h.len;have h2:=h'.len
 rw[R1 a_,R1 a_]
def YW(a:GF)(B:Nat)(r W:List GF)(i:Nat):GF:=(r.getD i 0+W.getD i 0)*pow a (i*B)
def pl(N:Nat)(r W:List GF)(e:List Nat):List Nat:=wr N r W e++e
omit ha hp in
theorem TI(he:e.Nodup):(pl N r W e).Nodup:=ZP.2 ⟨VR N r W e,he,fun i hi j hj e0=>(Sf.1 hi).2.2 (e0▸hj)⟩
omit ha hp in
theorem S0(hlt:∀i∈e,i<N):∀i∈pl N r W e,i<N:=fun i hi=>(dO.1 hi).elim (fun h=>(Sf.1 h).1) (hlt i)
omit ha hp in
theorem UL(hr:r.length=N)(he:e.Nodup)(hlt:∀i∈e,i<N)(h:SI a N M B r W e){j:Nat}(hj:j<M):pv r (pow a (B+j))=sm (fun i=>YW a B r W i*pow (pow a i) j) (pl N r W e):=by
 rw[←T2 (pl N r W e) (List.range N) (TI he) aaQ (fun i hi=>φ.2 (S0 hlt i hi)) fun i hi hn=>?_,RA (g:=fun i=>r.getD i 0*pow a (i*B)*pow (pow a i) j+W.getD i 0*pow a (i*B)*pow (pow a i) j) _ fun i _=>by rw[YW,add_mul,add_mul],SF,←Tj a B j (NF hr),←Tj a B j (NF h.len),h.root j hj,add_zero]
 have:r.getD i 0=W.getD i 0:=xq fun hc=>hn (by
  by_cases hie:i∈e
  ·exact Gx _ hie
  exact FC _ (Sf.2 ⟨φ.1 hi,hc,hie⟩))
 rw[YW,this,eE,zero_mul,zero_mul]
def Rx(a:GF):List Nat→GF→GF
 | [],_=>1
 |i::e,t=>(1+pow a i*t)*Rx a e t
omit ha hp in
theorem S8(a:GF):∀e:List Nat,Rx a e 0=1
 | []=>rfl
 |i::e=>by rw[Rx,mul_zero,add_zero,one_mul,S8 a e]
omit hp in
theorem TE:∀(e:List Nat)(i:Nat),i∈e→Rx a e (inv (pow a i))=0
 | [],_,h=>aS
 |k::e,i,h=>by
  rw[Rx]
  rcases X_.1 h with rfl|h
  ·rw[gN (oh ha i),eE,zero_mul]
  rw[TE e i h,mul_zero]
theorem UA:∀(e:List Nat),(∀i∈e,i<N)→∀i<N,i ∉ e→Rx a e (inv (pow a i))≠0
 | [],_,_,_,_=>tX
 |k::e,hlt,i,hi,h=>by
  rw[Rx]
  refine mN (fun e0=>h ?_) (UA e (fun i hi=>hlt i (o_ _ hi)) i hi fun hm=>h (o_ _ hm))
  have e1:=lB e0
  have e2:pow a i=pow a k:=by
   have:=L_ (·*pow a i) e1
   simp only[one_mul]at this
   rw[this,mul_assoc,mul_comm (inv _),gN (oh ha i),mul_one]
  rw[hp i hi k (hlt k H_) e2];exact H_
variable{S G T:List GF}
theorem UK(hr:r.length=N)(he:e.Nodup)(hlt:∀i∈e,i<N)(h:SI a N M B r W e)(hS:∀j<M,S.getD j 0=pv r (pow a (B+j)))(hG:G.length≤e.length+1)(hGv:∀t,pv G t=Rx a e t)(hT:∀j<M,T.getD j 0=(fH G S).getD j 0):
 RN (wr N r W e) (fun i=>YW a B r W i*Rx a e (inv (pow a i))) (pow a) e.length M T where
 nz i _:=oh ha i
 zz i hi:=by
  obtain⟨h1,h2,h3⟩:=Sf.1 hi
  exact mN (mN (fun e0=>h2 (lB e0)) (oh ha _)) (UA ha hp e hlt i h1 h3)
 nd:=SY ha hp (VR N r W e) fun i hi=>(Sf.1 hi).1
 sum k h1 h2:=by
  rw[hT k h2,cs (e:=0) (M:=M) (D:=pl N r W e) (z:=YW a B r W) (x:=pow a) (fun i _=>oh ha i) (fun j _ hj=>by rw[hS j hj];exact UL hr he hlt h hj) G k h2 a_,pl,Tr,Se e fun i hi=>by rw[hGv,TE ha e i hi,mul_zero,zero_mul],add_zero]
  exact RA _ fun i _=>by rw[hGv]
omit ha hp in
theorem RN.drop{D:List Nat}{z x:Nat→GF}{e M:Nat}{T:List GF}(h:RN D z x e M T):RN D (fun i=>z i*pow (x i) e) x 0 (M-e) (T.drop e) where
 nz:=h.nz
 zz i hi:=mN (h.zz i hi) (oh (h.nz i hi) e)
 nd:=h.nd
 sum k _ h2:=by
  have:(T.drop e).getD k 0=T.getD (e+k) 0:=by simp[bF]
  rw[this,h.sum (e+k) a_ a_]
  exact RA D fun i _=>by rw[pow_add,mul_assoc]
theorem UJ{l P O:List GF}(hr:r.length=N)(he:e.Nodup)(hlt:∀i∈e,i<N)(h:SI a N M B r W e)(hS:∀j<M,S.getD j 0=pv r (pow a (B+j)))(hGv:∀t,pv G t=Rx a e t)(hl:∀i∈wr N r W e,pv l (inv (pow a i))=0)(hl0:l.getD 0 0=1)(hP:P.length≤(wr N r W e).length+e.length+1)(hPv:∀t,pv P t=pv l t*pv G t)(hO:O.length≤M)(hOj:∀j<M,O.getD j 0=(fH P S).getD j 0):
 (∀i<N,pv P (inv (pow a i))=0↔i∈pl N r W e)∧∀i∈pl N r W e,po (inv (pow a i)) P≠0∧pv O (inv (pow a i))*inv (po (inv (pow a i)) P)=YW a B r W i*inv (pow a i):=by
 have v0:∀p:List GF,pv p 0=p.getD 0 0:=fun p=>by
  cases p with
  |nil=>rfl
  |cons c p=>rw[pv,zero_mul,add_zero];rfl
 have hP0:P.getD 0 0≠0:=by rw[←v0,hPv,v0 l,hl0,hGv,S8,one_mul];exact tX
 have RS:∀i∈pl N r W e,pv P (inv (pow a i))=0:=fun i hi=>by
  rw[hPv]
  rcases dO.1 hi with hi|hi
  ·rw[hl i hi,zero_mul]
  rw[hGv,TE ha e i hi,mul_zero]
 have hn:=Xk ha hp (TI (N:=N) (r:=r) (W:=W) he) (S0 hlt)
 have hlen:P.length≤((pl N r W e).map fun i=>inv (pow a i)).length+1:=by rw[x_,pl,E_];exact hP
 have hys:∀y∈(pl N r W e).map fun i=>inv (pow a i),pv P y=0:=fun y hy=>by
  obtain⟨i,hi,rfl⟩:=uV.1 hy
  exact RS i hi
 have hinj:∀i<N,∀j<N,inv (pow a i)=inv (pow a j)→i=j:=fun i hi j hj e0=>hp i hi j hj (by rw[←inv_inv (oh ha i),e0,inv_inv (oh ha j)])
 refine⟨fun i hi=>⟨fun h0=>?_,RS i⟩,fun i hi=>?_⟩
 ·obtain⟨j,hj,e0⟩:=uV.1 (Xj hn hlen hys hP0 h0)
  rw[←hinj j (S0 hlt j hj) i hi e0];exact hj
 have hne:=Xw hn hlen hys hP0 (uV.2 ⟨i,hi,rfl⟩)
 refine⟨hne,?_⟩
 have hf:=h.fits
 rw[WB (x:=pow a) (z:=YW a B r W) (M:=M) (TI he) (fun i _=>oh ha i) (fun i hi j hj=>hinj i (S0 hlt i hi) j (S0 hlt j hj)) (fun k hk=>by rw[hS k hk];exact UL hr he hlt h hk) a_ RS hO hOj hi,mul_assoc,gN hne,mul_one]
end
theorem YE{a:GF}(ha:a≠0)(B:Nat)(r W:List GF)(i:Nat):(0<B→YW a B r W i*inv (pow a i)*pow (inv (pow a i)) (B-1)=r.getD i 0+W.getD i 0)∧(B=0→YW a B r W i*inv (pow a i)*inv (inv (pow a i))=r.getD i 0+W.getD i 0):=by
 have h1:=gN (oh ha i)
 constructor
 ·intro hB
  have e1:inv (pow a i)*pow (inv (pow a i)) (B-1)=pow (inv (pow a i)) B:=by
   conv=>rhs;rw[show B=(B-1)+1 by omega]
   rw[pow,mul_comm]
  have e2:∀n,pow (pow a i) n*pow (inv (pow a i)) n=1:=by
   intro n
   induction n with
   |zero=>rw[pow,pow,one_mul]
   |succ n ih=>rw[pow,pow,show pow (pow a i) n*pow a i*(pow (inv (pow a i)) n*inv (pow a i))=(pow (pow a i) n*pow (inv (pow a i)) n)*(pow a i*inv (pow a i)) by ac_rfl,ih,h1,one_mul]
  rw[mul_assoc,e1,YW,←wZ,mul_assoc,e2,mul_one]
 rintro rfl
 rw[mul_assoc,gN (tu (oh ha i)),mul_one,YW,Nat.mul_zero,pow,mul_one]
end Go.Proofs.YtmhkpafkadijgaaGreatDoor.Gw
namespace Go.Proofs.YtmhkpafkadijgaaGreatDoor.Gw
open Go.IntKind renaming wrap→I,i64→U
open Go Go.RowKit GF
theorem Ul(l:List GF)(hl:l.length<1000):∀(d i k:Nat),i+d=l.length→d<k→fo.l0 k (bi l) (i:Int)=some ((l.drop i).all fun a=>decide (a=0))
 |d,i,0,_,h=>a_
 |0,i,k+1,hd,hk=>by
  rw[fo.l0,aQ g_,Θ a_];rfl
 |d+1,i,k+1,hd,hk=>by
  have hi:i<l.length:=a_
  have e:qM.f (((l.getD i 0).1:Nat):Int)=some (!decide (l.getD i 0=0)):=by
   unfold qM.f
   congr 2
   exact PO.2 ⟨fun h=>GF.ext aaS,fun h=>by rw[h];rfl⟩
  rw[fo.l0,bh g_,aF g_,cI,bT a_,e,aJ,δ hi,PX,←dG hi]
  by_cases h:l.getD i 0=0
  ·rw[W_ h,ν,U_,NM]
   exact Ul l hl d (i+1) k a_ a_
  rw[θ h,ZJ,EK,Oy]
  unfold fo.j0
  rw[W_ a_];rfl
theorem WE{N K B k:Nat}{W:List GF}(hc:Cd N K B)(hW:W.length=N)(hk:3000<k):fo.f k ((N:Int),(K:Int),(B:Int)) (bi W)=some ((eQ B (N-K)).all fun x=>decide (pv W x=0)):=by
 obtain⟨c1,c2,c3,c4⟩:=id hc
 unfold fo.f
 simp only
 rw[jX hc,aJ,cH rfl,cH (by rw[YO,hW]),C2 hc a_,aJ,uW a_ Z4 hk,aJ]
 have:=Ul ((eQ B (N-K)).map (pv W)) (by simp[lS];omega) (N-K) 0 k (by simp[lS]) a_
 rw[Γ,List.all_map]at this
 exact this
theorem Uf{L:List Nat}{k:Nat}(hL:L.length<1000)(hk:1000<k)(j:Nat):jb.f k (ints L) (j:Int)=some (decide (j∈L)):=by
 rcases Gv hL hk j with⟨⟨a,h1,h2⟩,h⟩|⟨h1,h⟩
 ·rw[h,W_]
  rw[←h2,bF,C_ h1];exact T_ h1
 rw[h,θ]
 intro hm
 obtain⟨a,ha,e⟩:=ES hm
 exact h1 a ha (by rw[bF,C_ ha];exact e)
theorem Tb{r w:List GF}(h:r.length=w.length):((bi w).take (min2 ((bi r).length:Int) ((bi w).length:Int)).toNat).drop 0=bi w:=by
 rw[YO,YO,h,tI,n_,Γ,D_ (by rw[YO];exact aI _)]
theorem Sw{a b:GF}:(((a.1:Nat):Int)=((b.1:Nat):Int))↔a=b:=⟨fun h=>GF.ext a_,fun h=>by rw[h]⟩
theorem T8{N:Nat}(r w:List GF)(e:List Nat)(i:Nat):(List.range (i+1)).filter (fun i=>!decide (r.getD i 0=w.getD i 0)&&!decide (i∈e))=wr i r w e++(if r.getD i 0≠w.getD i 0∧i ∉ e then [i]else []):=by
 rw[EW,ZG]
 congr 1
 rw[Le,aaf]
 by_cases h1:r.getD i 0=w.getD i 0
 ·rw[I_ (by rw[W_ h1];simp),I_ (fun x=>x.1 h1)]
 by_cases h2:i∈e
 ·rw[I_ (by rw[W_ h2];simp),I_ (fun x=>x.2 h2)]
 rw[M_ (by rw[θ h1,θ h2];rfl),M_ ⟨h1,h2⟩]
theorem VS{r w:List GF}{e:List Nat}(h:r.length=w.length)(hw:w.length<500)(he:e.length<500):∀(d i k:Nat),i+d=w.length→1001+d<k→gG.l0 k (bi r) (bi w) (ints e) ((wr i r w e).length:Int) (i:Int)=some ((wr w.length r w e).length:Int)
 |d,i,0,_,h=>a_
 |0,i,k+1,hd,hk=>by
  obtain rfl:i=w.length:=a_
  rw[gG.l0,Tb h,aQ g_]
 |d+1,i,k+1,hd,hk=>by
  have hl:(wr i r w e).length≤i:=by unfold wr;have:=xJ (fun i=>!decide (r.getD i 0=w.getD i 0)&&!decide (i∈e)) (List.range i);rw[yC]at this;exact this
  have ih:=VS h hw he d (i+1) k a_ a_
  have hs:wr (i+1) r w e=_:=T8 (N:=i) r w e i
  rw[gG.l0,Tb h,bh g_,aF g_,aF g_,cI,cI,bT a_,bT a_,Uf a_ a_,aJ]
  rw[hs]at ih
  by_cases h1:r.getD i 0=w.getD i 0
  ·rw[cH (Sw.2 h1)]
   rw[I_ (fun x=>x.1 h1),fQ]at ih;exact ih
  rw[kg (fun x=>h1 (Sw.1 x))]
  by_cases h2:i∈e
  ·rw[W_ h2,ν,U_]
   rw[I_ (fun x=>x.2 h2),fQ]at ih;exact ih
  rw[θ h2,ZJ,EK]
  rw[M_ ⟨h1,h2⟩,E_]at ih;exact ih
theorem Ub{r w:List GF}(h:r.length=w.length)(hw:w.length<500):∀(d i k:Nat),i+d=w.length→d<k→hJ.l0 k (bi r) (bi w) (ints (wr i r w [])) (i:Int)=some (ints (wr w.length r w []))
 |d,i,0,_,h=>a_
 |0,i,k+1,hd,hk=>by
  obtain rfl:i=w.length:=a_
  rw[hJ.l0,Tb h,aQ g_]
 |d+1,i,k+1,hd,hk=>by
  have hl:(wr i r w []).length≤i:=FY
  have ih:=Ub h hw d (i+1) k a_ a_
  have hs:wr (i+1) r w []=_:=T8 (N:=i) r w [] i
  rw[hJ.l0,Tb h,bh g_,aF g_,aF g_,cI,cI,bT a_]
  rw[hs]at ih
  by_cases h1:r.getD i 0=w.getD i 0
  ·rw[cH (Sw.2 h1)]
   rw[I_ (fun x=>x.1 h1),fQ]at ih;exact ih
  rw[kg (fun x=>h1 (Sw.1 x)),aF BC]
  rw[M_ ⟨h1,j_⟩]at ih
  rw[←ih];congr 1;simp[ints]
abbrev RL(N K B:Nat)(r W:List GF)(e:List Nat):Prop:=SI al N (N-K) B r W e
def R0(N K B:Nat)(r w:List GF)(e:List Nat):Bool:=((eQ B (N-K)).all fun x=>decide (pv w x=0))&&decide (2*(wr N r w e).length+e.length≤N-K)
theorem SJ{N K B:Nat}{r w:List GF}{e:List Nat}(hw:w.length=N):R0 N K B r w e=true↔RL N K B r w e:=by
 unfold R0
 rw[S_,Y_,aaB]
 constructor
 ·rintro⟨h1,h2⟩
  exact⟨hw,fun j hj=>aT (h1 _ (uV.2 ⟨j,φ.2 hj,rfl⟩)),h2⟩
 rintro⟨_,h1,h2⟩
 refine⟨fun x hx=>?_,h2⟩
 obtain⟨j,hj,rfl⟩:=uV.1 hx
 exact W_ (h1 j (φ.1 hj))
theorem T9{N K B k:Nat}{r w:List GF}{e:List Nat}(hc:Cd N K B)(hr:r.length=N)(hw:w.length=N)(he:e.length≤N-K)(hee:dA.f k ((N:Int),(K:Int),(B:Int)) (ints e)=some 0)(hk:3000<k):lr.f k ((N:Int),(K:Int),(B:Int)) (bi r) (ints e) (bi w)=some (R0 N K B r w e):=by
 obtain⟨c1,c2,c3,c4⟩:=id hc
 have hwr:=VS (e:=e) (hr.trans hw.symm) a_ a_ w.length 0 k a_ a_
 have hl:(wr N r w e).length≤N:=Gu
 unfold lr.f
 simp only
 rw[cH N8,hee,aJ,cH rfl,WE hc hw hk,aJ]
 unfold R0
 cases hh:(eQ B (N-K)).all fun x=>decide (pv w x=0)with
 |false=>rfl
 |true=>
  simp only[ν,U_,NM]
  unfold gG.f
  rw[YO,YO,hr,hw,tI,aF a_]
  rw[show((wr 0 r w e).length:Int)=0 from rfl,hw,show((0:Nat):Int)=0 from rfl]at hwr
  rw[hwr,aJ]
  unfold oZ.f
  simp only
  rw[rZ hc,aJ,aQ a_,aQ a_,aQ G_,iQ]
  by_cases h1:N-K<(wr N r w e).length
  ·rw[bh a_,θ a_];rfl
  rw[aQ a_,aQ a_,ca (x:=2*((wr N r w e).length:Int)) a_ a_,ca a_ a_,aJ]
  by_cases h2:2*(wr N r w e).length+e.length≤N-K
  ·rw[W_ (show 2*((wr N r w e).length:Int)+(e.length:Int)≤((N-K:Nat):Int) by omega),W_ h2];rfl
  rw[θ (show ¬2*((wr N r w e).length:Int)+(e.length:Int)≤((N-K:Nat):Int) by omega),θ h2];rfl
theorem Xf{N K B:Nat}{W:List GF}(hc:Cd N K B)(h:W.length=N):iK.f ((N:Int),(K:Int),(B:Int)) (bi W)=some (bi (W.drop (N-K)),0):=by
 obtain⟨c1,c2,c3,c4⟩:=id hc
 unfold iK.f
 simp only
 rw[jX hc,aJ,cH rfl,cH (by rw[YO,h])]
 unfold iK.j0
 rw[cH rfl]
 simp only
 rw[rZ hc,aJ,aF (by rw[YO,h];omega),EU,n_,nu]
 unfold dM.f
 rw[aF (by rw[YO,FT];omega)];rfl
theorem Wb{N K B k:Nat}{r W:List GF}(hc:Cd N K B)(hr:r.length=N)(h:W.length=N)(hk:3000<k):iG.f k ((N:Int),(K:Int),(B:Int)) (bi r) (bi W)=some ((bi W,bi (W.drop (N-K)),ints (wr N r W [])),0):=by
 obtain⟨c1,c2,c3,c4⟩:=id hc
 have ha:=Ub (hr.trans h.symm) a_ W.length 0 k a_ a_
 rw[show ints (wr 0 r W [])=[] from rfl,h]at ha
 unfold iG.f
 simp only
 rw[Xf hc h,aJ,bh rfl,cH N8]
 unfold iG.j0
 rw[cH rfl]
 unfold dM.f hJ.f
 rw[aF (by rw[YO,h];omega),aJ,YO,YO,hr,h,tI,aF a_,show(0:Int)=((0:Nat):Int) from rfl,ha];rfl
theorem Yu{N K B k:Nat}{r:List GF}(hc:Cd N K B)(h:r.length=N)(hk:3000<k):lU.f k ((N:Int),(K:Int),(B:Int)) (bi r)=some (bi ((eQ B (N-K)).map (pv r))):=by
 obtain⟨c1,c2,c3,c4⟩:=id hc
 unfold lU.f
 simp only
 rw[jX hc,aJ,cH rfl,cH (by rw[YO,h]),C2 hc a_,aJ,uW a_ Z4 hk];rfl
theorem Up(A D:List Nat):ints (A++D)=ints A++ints D:=by simp[ints]
theorem WI(A:List Nat)(n:Nat):(ints A).any (fun x=>decide (x=(n:Int)))=decide (n∈A):=by
 rw[ints,List.any_map]
 by_cases h:n∈A
 ·rw[W_ h,List.any_eq_true];exact⟨n,h,W_ rfl⟩
 rw[θ h,List.any_eq_false]
 intro a ha e
 have:(a:Int)=(n:Int):=aT e
 exact h (by rw[←show a=n by omega];exact ha)
theorem S1{L:List Nat}{i:Nat}(h:i<L.length):L.take (i+1)=L.take i++[L.getD i 0]:=by
 rw[y_ h];simp[bF,h]
theorem VJ{L:List Nat}(hL:L.length<1000)(hb:∀n∈L,n<1000):∀(d i k:Nat),i+d=L.length→d<k→(L.take i).Nodup→lV.l0 k (ints L) (ints (L.take i)) (i:Int)=some (!decide L.Nodup)
 |d,i,0,_,h,_=>a_
 |0,i,k+1,hd,hk,hn=>by
  rw[D_ a_]at hn
  rw[lV.l0,aQ G_,W_ hn];rfl
 |d+1,i,k+1,hd,hk,hn=>by
  have hi:i<L.length:=a_
  have hm:L.getD i 0∈L:=by rw[bF,C_ hi];exact T_ hi
  have hb':=hb _ hm
  have e:L=L.take i++L.getD i 0::L.drop (i+1):=by
   conv=>lhs;rw[←Nr i L,δ hi]
   simp[bF,hi]
  rw[lV.l0,bh G_,aF G_,ints_at hi,aF a_,WI]
  by_cases h:L.getD i 0∈L.take i
  ·rw[bh h,θ];·rfl
   intro hn
   rw[e]at hn
   exact(ZP.1 hn).2.2 _ h _ H_ rfl
  rw[aQ h,aF (by rw[iQ,ζ];omega),bT a_]
  have e2:ints (L.take i)++[((L.getD i 0:Nat):Int)]=ints (L.take (i+1)):=by rw[S1 hi,Up];rfl
  rw[e2]
  refine VJ hL hb d (i+1) k a_ a_ ?_
  rw[S1 hi,ZP]
  exact⟨hn,j_,fun a ha b hb e=>h (by rw[Q_]at hb;rw[←hb,←e];exact ha)⟩
theorem Ui{N K B:Nat}(hN:N≤255){e:List Nat}(he:e.length<1000)(hb:∀n∈e,n<N):∀(d i k:Nat),i+d=e.length→d+1000<k→dA.l0 k ((N:Int),(K:Int),(B:Int)) (ints e) (i:Int)=some (if e.Nodup then 0 else 13)
 |d,i,0,_,h=>a_
 |0,i,k+1,hd,hk=>by
  have:=VJ he (fun n hn=>by have:=hb n hn;omega) e.length 0 k a_ a_ j_
  rw[dA.l0,aQ G_]
  unfold dA.j0 lV.f
  rw[bP,show ints []=[] from rfl,show((0:Nat):Int)=0 from rfl]at this
  rw[aQ f_,this,aJ]
  by_cases h:e.Nodup
  ·rw[W_ h,M_ h];rfl
  rw[θ h,I_ h];rfl
 |d+1,i,k+1,hd,hk=>by
  have hi:i<e.length:=a_
  have hm:e.getD i 0∈e:=by rw[bF,C_ hi];exact T_ hi
  have hb':=hb _ hm
  rw[dA.l0,bh G_,aF G_,ints_at hi,aQ a_]
  unfold dA.j1
  simp only
  rw[aQ a_,bT a_]
  exact Ui hN he hb d (i+1) k a_ a_
theorem S5{N K B k:Nat}{e:List Nat}(hc:Cd N K B)(he:e.length<500)(hb:∀n∈e,n<N)(hk:2000<k):dA.f k ((N:Int),(K:Int),(B:Int)) (ints e)=some (if e.Nodup then 0 else 13):=by
 obtain⟨c1,c2,c3,c4⟩:=id hc
 unfold dA.f
 simp only
 rw[jX hc,aJ,cH rfl]
 exact Ui c3 a_ hb e.length 0 k a_ a_
theorem SN(p q:List GF):(fH p q).length≤p.length+q.length:=by
 by_cases e:q=[]
 ·subst e
  induction p with
  |nil=>simp[fH]
  |cons c p ih=>rw[fH,og];simp at ih⊢;omega
 have:=tY p q e;omega
theorem Te{p q:List GF}(hq:q≠ []):(fH p q).length≤p.length+q.length-1:=by
 have:=tY p q hq;omega
theorem SM{p q:List GF}{k:Nat}(h:p.length+q.length≤250)(hk:100000<k):cZ.f k (bi p) (bi q)=some (bi (aW (fH p q))):=by
 have h2:p.length*(q.length+3)≤250*253:=Φ a_ a_
 obtain⟨L,h3,h4,h5⟩:=wj (p:=p) (q:=q) (k:=k) a_ a_ a_
 have:=SN p q
 rw[h5,MA (q:=fH p q) a_ a_ fun x=>by rw[h4,rP]]
theorem TZ{a:GF}{p:List GF}{k:Nat}(h:p.length<1000)(hk:2000<k):ky.f k ((a.1:Nat):Int) (bi p)=some (bi (aW (p.map (a* ·)))):=by
 unfold ky.f
 rw[nG a_ a_,aJ,lK Fe Fe];rfl
theorem Xn{l P:List GF}{i:Nat}(hi:i<P.length)(hl:P.length≤l.length):(pad l (P.take i)).set i ((pad l (P.take i)).getD i 0+P.getD i 0)=pad l (P.take (i+1)):=by
 refine vJ (by rw[υ,og,og,ζ,ζ];omega) fun j=>?_
 have hlen:(pad l (P.take i)).length=l.length:=by rw[og,ζ];omega
 have ht:∀m,(P.take m).getD j 0=if j<m then P.getD j 0 else 0:=fun m=>by
  simp only[bF,Ac];split<;>rfl
 by_cases e:j=i
 ·subst e
  rw[bF,Ou a_]
  show(pad l (P.take j)).getD j 0+P.getD j 0=_
  rw[qe,qe,ht,ht,I_ a_,M_ a_,add_zero]
 rw[bF,PZ (fun x=>e x.symm),←bF,qe,qe,ht,ht]
 by_cases h:j<i
 ·rw[M_ h,M_ a_]
 rw[I_ h,I_ a_]
theorem T5(A:List (List Int))(x:Int){l P:List GF}(hA:at_ [] A x=bi P)(hl:P.length≤l.length)(hb:l.length<1000):∀(d i k:Nat),i+d=P.length→hY.l1 (k+d+1) A x (bi (pad l (P.take i))) (i:Int)=hY.l0 k A (bi (pad l P)) (I U (x+1))
 |0,i,k,hi=>by
  rw[hY.l1,hA,aQ g_,D_ a_]
 |d+1,i,k,hi=>by
  have hlen:(pad l (P.take i)).length=l.length:=by rw[og,ζ];omega
  rw[show k+(d+1)+1=(k+d+1)+1 by omega,hY.l1,hA,bh g_,aF g_,aF g_,aF g_,cI,cI,xor_val,n_,gY,Xn a_ hl,bT a_]
  exact T5 A x hA hl hb d (i+1) k a_
theorem Xo{l P:List GF}(h:l.length≤P.length):pad (l++List.replicate (P.length-l.length) 0) P=pad l P:=by
 refine vJ (by rw[og,og];simp;omega) fun j=>?_
 rw[qe,qe]
 congr 1
 simp only[bF,List.getElem?_append]
 split
 ·rfl
 rw[τ (show l.length≤j by omega),Fp];split<;>rfl
theorem VG(A:List (List Int)){l P:List GF}{x k:Nat}(hA:at_ [] A (x:Int)=bi P)(hx:x<A.length)(hx2:x<1000)(hl:l.length<1000)(hP:P.length<1000):hY.l0 (k+P.length+1+1) A (bi l) (x:Int)=hY.l0 k A (bi (pad l P)) ((x+1:Nat):Int):=by
 rw[hY.l0,bh a_,aF a_,hA]
 by_cases h:l.length<P.length
 ·have hw:I U (((bi P).length:Int)-((bi l).length:Int))=((P.length-l.length:Nat):Int):=by rw[YO,YO,ca a_ a_];omega
  have:=T5 A (x:Int) (l:=l++List.replicate (P.length-l.length) 0) hA l_ l_ P.length 0 k a_
  rw[bP,show pad (l++List.replicate (P.length-l.length) (0:GF)) []=l++List.replicate (P.length-l.length) 0 by cases l++List.replicate (P.length-l.length) (0:GF)<;>rfl,Xo a_,bT a_]at this
  rw[bh (by rw[YO,YO];omega),hw,aF g_]
  unfold hY.j0
  rw[n_,gZ,←gb]
  exact this
 have:=T5 A (x:Int) (l:=l) hA a_ a_ P.length 0 k a_
 rw[bP,show pad l []=l by cases l<;>rfl,bT a_]at this
 rw[aQ (by rw[YO,YO];omega)]
 unfold hY.j0
 exact this
theorem Ua{p q:List GF}{k:Nat}(hp:p.length<400)(hq:q.length<400)(hk:2000<k):Sp.f k (bi p) (bi q)=some (bi (aW (pad p q))):=by
 obtain⟨k,rfl⟩:∃k',k=k'+1+q.length+1+1+p.length+1+1:=⟨k-q.length-p.length-5,a_⟩
 have h1:=VG [bi p,bi q] (l:=[]) (P:=p) (x:=0) (k:=k+1+q.length+1+1) rfl j_ a_ j_ a_
 have h2:=VG [bi p,bi q] (l:=p) (P:=q) (x:=1) (k:=k+1) rfl j_ a_ a_ a_
 have hl:(pad p q).length≤400:=PU
 unfold Sp.f hY.f
 rw[show pad ([]:List GF) p=p by cases p<;>rfl]at h1
 rw[show([]:List Int)=bi [] from rfl,show(0:Int)=((0:Nat):Int) from rfl,h1,h2,hY.l0,aQ j_,lK a_ a_]
 rfl
theorem UB(a:GF)(n:Nat)(t:GF):∀e:List Nat,Rx a (e++[n]) t=Rx a e t*(1+pow a n*t)
 | []=>by simp only[ψ,Rx,mul_one,one_mul]
 |i::e=>by rw[Bv,Rx,Rx,UB a n t e,mul_assoc]
theorem Uz{e:List Nat}(he:e.length≤200)(hb:∀n∈e,n<1000):∀(d i k:Nat)(g:List GF),i+d=e.length→d+100000<k→g.length≤i+1→(∀t,pv g t=Rx al (e.take i) t)→∃G,G.length≤e.length+1∧(∀t,pv G t=Rx al e t)∧kX.l0 k (ints e) (bi g) (i:Int)=some (bi G)
 |d,i,0,g,_,h,_,_=>a_
 |0,i,k+1,g,hd,hk,hg,hv=>by
  refine⟨g,a_,fun t=>by rw[hv,D_ a_],?_⟩
  rw[kX.l0,aQ G_]
 |d+1,i,k+1,g,hd,hk,hg,hv=>by
  have hi:i<e.length:=a_
  have hm:e.getD i 0∈e:=by rw[bF,C_ hi];exact T_ hi
  have hb':=hb _ hm
  have hle:=gP (fH g [1,pow al (e.getD i 0)])
  have hle2:=Te (p:=g) (q:=[1,pow al (e.getD i 0)]) j_
  simp only[r_,N_]at hle2
  obtain⟨G,h1,h2,h3⟩:=Uz he hb d (i+1) k (aW (fH g [1,pow al (e.getD i 0)])) a_ a_ a_ fun t=>by
   rw[fG,rP,hv,S1 hi,UB];congr 1;simp only[pv];rw[mul_zero,add_zero,mul_comm]
  refine⟨G,h1,h2,?_⟩
  rw[kX.l0,bh G_,aF G_,ints_at hi,wY a_,aJ,show([1,(((pow al (e.getD i 0)).1:Nat):Int)]:List Int)=bi [1,pow al (e.getD i 0)] from rfl,SM l_ a_,aJ,bT a_]
  exact h3
theorem Xb{e:List Nat}{k:Nat}(he:e.length≤200)(hb:∀n∈e,n<1000)(hk:200000<k):∃G,G.length≤e.length+1∧(∀t,pv G t=Rx al e t)∧kX.f k (ints e)=some (bi G):=
 Uz he hb e.length 0 k [1] a_ a_ j_ fun t=>by rw[bP,Rx,Cw]
theorem Uj{p:List GF}{j m:Nat}(h:j<m):(p.take m).getD j 0=p.getD j 0:=by simp[bF,Ac,h]
theorem U2{p q:List GF}(h:p.length+q.length≤250)(j:Nat):(fH p q).getD j 0=(fH q p).getD j 0:=by
 have h1:=SN p q
 have h2:=SN q p
 exact Tx a_ a_ (fun x=>by rw[rP,rP,mul_comm]) j
theorem Xg{S G:List GF}{k:Nat}(h:S.length+G.length≤250)(hk:100000<k):∃T,T.length=S.length∧(∀j<S.length,T.getD j 0=(fH G S).getD j 0)∧oG.f k (bi S) (bi G)=some (bi T):=by
 obtain⟨q,hq⟩:∃q,q=aW (fH S G):=⟨_,rfl⟩
 refine⟨q.take S.length++List.replicate (S.length-(q.take S.length).length) 0,l_,fun j hj=>?_,?_⟩
 ·rw[U2 a_,←jR (fH S G),←hq]
  by_cases hl:j<(q.take S.length).length
  ·rw[bF,ξ hl,←bF,Uj hj]
  rw[bF,ε a_,Fp,R1 (p:=q) (by simp only[ζ]at hl;omega)]
  split<;>rfl
 unfold oG.f
 rw[YO,aF a_,SM h hk,aJ,n_,gZ,←hq]
 unfold cB
 rw[YO,P_,lh,lh,bP,Tu,ψ,YO,FW,nu,List.drop_replicate,gb]
theorem YA{p:List GF}{n:Nat}(hp:p.length<1000)(hn:n<1000):Sx.f (bi p) (n:Int)=some (bi (List.replicate n 0++p)):=by
 unfold Sx.f
 rw[n_,aF a_,aF (by rw[P_,YO];omega),gZ,gb]
theorem Ty(p:List GF)(j:Nat):jV.f (bi p) (j:Int)=some (((p.getD j 0).1:Nat):Int):=by
 unfold jV.f
 rw[aQ a_]
 by_cases h:p.length≤j
 ·rw[bh g_,R1 h];rfl
 rw[aQ g_,aF g_,cI]
theorem U3(q:List GF):∀(l:List GF)(n s i:Nat),l.length≤n→n≤i+1→(fH l q).getD i 0=sm (fun j=>l.getD (j-s) 0*q.getD (i+s-j) 0) (List.range' s n)
 | [],n,s,i,_,_=>by
  rw[Se _ fun j _=>by rw[R1 j_,zero_mul]];simp[fH]
 |c::l,0,s,i,h,_=>aS
 |c::l,n+1,s,i,h,hi=>by
  simp only[r_]at h
  rw[RG,LU,sm,Ff,LP,FK]
  congr 1
  cases i with
  |zero=>
   obtain rfl:n=0:=a_
   rfl
  |succ i=>
   simp only
   rw[U3 q l n (s+1) i a_ a_]
   refine RA _ fun j hj=>?_
   have:=List.mem_range'_1.1 hj
   rw[show j-s=(j-(s+1))+1 by omega,bY];congr 2;omega
def Ss(l:List GF)(n:Nat)(s:List GF)(i:Nat):GF:=sm (fun j=>l.getD (j+1) 0*s.getD (i-j-1) 0) (List.range n)
theorem Yt(l:List GF)(n:Nat)(s:List GF)(i:Nat):Ss l (n+1) s i=Ss l n s i+l.getD (n+1) 0*s.getD (i-n-1) 0:=by
 unfold Ss
 rw[EW,Tr,sm,sm,add_zero]
theorem Ys{l s:List GF}{n i:Nat}(hl:l.length≤n+1)(hn:n≤i)(h1:l.getD 0 0=1):s.getD i 0+Ss l n s i=(fH l s).getD i 0:=by
 rw[U3 s l (n+1) 0 i hl a_,LU,sm,h1,one_mul,Gy,aaK]
 congr 1
 unfold Ss
 have key:∀(f:Nat→GF)(n s:Nat),sm f (List.range' (s+1) n)=sm (fun j=>f (j+1)) (List.range' s n):=by
  intro f n
  induction n with
  |zero=>intro s;rfl
  |succ n ih=>intro s;rw[LU,LU,sm,sm,ih]
 rw[key,PY]
 refine RA _ fun j hj=>?_
 rw[aaK];congr 2
theorem UH{l s:List GF}{n i:Nat}(hn:n≤i)(hi:i<1000):∀(d j k:Nat),j+d=n→d<k→jk.l0 k (bi l) (n:Int) (bi s) (i:Int) (((Ss l j s i).1:Nat):Int) (j:Int)=some (((Ss l n s i).1:Nat):Int)
 |d,j,0,_,h=>a_
 |0,j,k+1,hd,hk=>by
  obtain rfl:j=n:=a_
  rw[jk.l0,aQ a_]
 |d+1,j,k+1,hd,hk=>by
  have e:I U (I U ((i:Int)-(j:Int))-1)=((i-j-1:Nat):Int):=by
   rw[ca (x:=(i:Int)-(j:Int)) a_ a_,ca a_ a_];omega
  rw[jk.l0,bh a_,bT a_,Ty,aJ,e,Ty,aJ,ru,aJ,xor_val,←Yt]
  exact UH hn hi d (j+1) k a_ a_
theorem UI{l s:List GF}{n i k:Nat}(hn:n≤i)(hi:i<1000)(hk:n<k):jk.f k (bi l) (n:Int) (bi s) (i:Int)=some (((Ss l n s i).1:Nat):Int):=by
 unfold jk.f
 exact UH hn hi n 0 k a_ hk
theorem Ta{T:List GF}(hT:T.length≤60):∀(d i k n:Nat)(l was:List GF)(lack:GF)(ago:Nat),i+d=T.length→5000+d<k→Sg T i l n was lack ago→
 ∃l' n' was' lack' ago',Sg T T.length l' n' was' lack' ago'∧iR.l0 k (bi T) (bi l) (bi was) (n:Int) ((lack.1:Nat):Int) (ago:Int) (i:Int)=some (bi l',(n':Int))∧
  ∀(D:List Nat)(z x:Nat→GF),RN D z x 0 T.length T→n≤D.length→n'≤D.length
 |d,i,0,n,l,was,lack,ago,_,h,_=>a_
 |0,i,k+1,n,l,was,lack,ago,hd,hk,hr=>by
  obtain rfl:i=T.length:=a_
  exact⟨l,n,was,lack,ago,hr,by rw[iR.l0,aQ g_],fun _ _ _ _ h=>h⟩
 |d+1,i,k+1,n,l,was,lack,ago,hd,hk,hr=>by
  have hi:i<T.length:=a_
  have h1:=hr.one;have h2:=hr.deg;have h3:=hr.le;have h4:=hr.a0
  obtain⟨nw,w1,w2,w3,w4⟩:=hr.w
  have hd':bits .xor .u8 (at_ 0 (bi T) (i:Int)) (((Ss l n T i).1:Nat):Int)=((((fH l T).getD i 0).1:Nat):Int):=by rw[cI,xor_val,Ys h2 h3 h1]
  have h0:((((fH l T).getD i 0).1:Nat):Int)=0↔(fH l T).getD i 0=0:=Sw (b:=0)
  by_cases hz:(fH l T).getD i 0=0
  ·obtain⟨l',n',was',lack',ago',r1,r2,r3⟩:=Ta hT d (i+1) k n l was lack (ago+1) a_ a_ (XO hr hz)
   refine⟨l',n',was',lack',ago',r1,?_,r3⟩
   rw[iR.l0,bh g_,aF g_,UI h3 a_ a_,aJ,hd',bh (h0.2 hz),bT a_,bT a_]
   exact r2
  obtain⟨a,ha⟩:∃a,a=(fH l T).getD i 0*inv lack:=⟨_,rfl⟩
  obtain⟨up,hue⟩:∃up,up=List.replicate ago (0:GF)++was:=⟨_,rfl⟩
  obtain⟨l2,hl2⟩:∃l2,l2=aW (pad l (aW (up.map (a* ·)))):=⟨_,rfl⟩
  have hup:up.length=ago+was.length:=by simp[hue]
  have e1:∀j,(fH l2 T).getD j 0=(fH l T).getD j 0+(fH l T).getD i 0*inv lack*(if j<ago then 0 else(fH was T).getD (j-ago) 0):=fun j=>by
   rw[hl2,Tg,TL,Tg,Tf,hue,U4,ha]
  have e2:l2.length≤max l.length (ago+was.length):=by
   have a1:=gP (pad l (aW (up.map (a* ·))))
   have a2:=gP (up.map (a* ·))
   rw[x_,hup]at a2
   rw[og]at a1
   rw[hl2];omega
  have e3:l2.getD 0 0=l.getD 0 0:=by
   rw[hl2,jR,qe,jR,pV,hue,show(List.replicate ago (0:GF)++was).getD 0 0=0 by
    obtain⟨m,rfl⟩:∃m,ago=m+1:=⟨ago-1,a_⟩
    rfl,mul_zero,add_zero]
  have hc:=XL hr hz e1 e2 e3
  have hstep:iR.l0 (k+1) (bi T) (bi l) (bi was) (n:Int) ((lack.1:Nat):Int) (ago:Int) (i:Int)=bif decide ((i:Int)<((2*n:Nat):Int))then iR.l0 k (bi T) (bi l2) (bi was) (n:Int) ((lack.1:Nat):Int) ((ago+1:Nat):Int) ((i+1:Nat):Int)
   else iR.l0 k (bi T) (bi l2) (bi l) ((i+1-n:Nat):Int) ((((fH l T).getD i 0).1:Nat):Int) 1 ((i+1:Nat):Int):=by
   have a2:=gP (up.map (a* ·))
   rw[x_,hup]at a2
   rw[iR.l0,bh g_,aF g_,UI h3 a_ a_,aJ,hd',aQ (fun x=>hz (h0.1 x)),II _ hr.lk,aJ,YA a_ a_,aJ,←hue]
   simp only
   rw[←ha,TZ (by rw[hup];omega) a_,aJ,Ua a_ (by have a3:=gP (up.map (a* ·));rw[x_,hup]at a3;omega) a_,aJ,←hl2,bT a_,bT a_,ca (x:=2*(n:Int)) a_ a_,ca (x:=((i+1:Nat):Int)-(n:Int)) a_ a_,show((i+1:Nat):Int)-(n:Int)=((i+1-n:Nat):Int) by omega,show 2*(n:Int)=((2*n:Nat):Int) by omega]
  by_cases h2n:i<2*n
  ·obtain⟨l',n',was',lack',ago',r1,r2,r3⟩:=Ta hT d (i+1) k n l2 was lack (ago+1) a_ a_ (hc.1 h2n)
   exact⟨l',n',was',lack',ago',r1,by rw[hstep,bh a_];exact r2,r3⟩
  obtain⟨l',n',was',lack',ago',r1,r2,r3⟩:=Ta hT d (i+1) k (i+1-n) l2 l ((fH l T).getD i 0) 1 a_ a_ (hc.2 a_)
  exact⟨l',n',was',lack',ago',r1,by rw[hstep,aQ a_];exact r2,fun D z x hp hn=>r3 D z x hp (XN hr hp hi hz)⟩
theorem Xd{T:List GF}{k:Nat}(hT:T.length≤60)(hk:6000<k):∃l n was lack ago,Sg T T.length l n was lack ago∧iR.f k (bi T)=some (bi l,(n:Int))∧∀(D:List Nat)(z x:Nat→GF),RN D z x 0 T.length T→n≤D.length:=by
 obtain⟨l,n,was,lack,ago,h1,h2,h3⟩:=Ta hT T.length 0 k 0 [1] [1] 1 1 a_ a_ (XP T)
 exact⟨l,n,was,lack,ago,h1,h2,fun D z x h=>h3 D z x h (jc _)⟩
theorem U5{a:GF}(h:a≠0):∀n,pow a n*pow (inv a) n=1
 |0=>one_mul 1
 |n+1=>by rw[pow,pow,show pow a n*a*(pow (inv a) n*inv a)=(pow a n*pow (inv a) n)*(a*inv a) by ac_rfl,U5 h n,gN h,one_mul]
theorem Uq{a:GF}(h:a≠0)(n:Nat):inv (pow a n)=pow (inv a) n:=
 mul_left (oh h n) (by rw[gN (oh h n),U5 h n])
theorem TA{a:GF}(ha:a≠0){j:Nat}(h:j<4611686018427387904):jK.f ((a.1:Nat):Int) (-(j:Int))=some (((inv (pow a j)).1:Nat):Int):=by
 have h0:a.1≠0:=fun e=>ha (GF.ext e)
 unfold jK.f an jN
 rw[ti,W_ a_,I_ a_]
 have e:inv (pow a j)=pow a ((-(j:Int))%255).toNat:=by
  refine mul_left (oh ha j) ?_
  rw[gN (oh ha j),←pow_add]
  refine GF.ext ?_
  rw[jW,←nP a.2 h0,show(j+((-(j:Int))%255).toNat)%255=0 by omega];rfl
 rw[e,jW];rfl
theorem Xx{j:Nat}(h:j<100000):kj.f (I U (-(j:Int)))=some (((pow (inv al) j).1:Nat):Int):=by
 unfold kj.f
 rw[ca a_ a_,show(2:Int)=((al.1:Nat):Int) from rfl,TA qA a_,Uq qA];rfl
def SG:List GF→GF
 | []=>0
 |c::l=>c+SG l
theorem VF(f:Nat→GF):∀L:List Nat,SG (L.map f)=sm f L
 | []=>rfl
 |a::L=>by rw[ι,SG,sm,VF f L]
def Sa(P:List GF)(i:Nat):List GF:=(List.range P.length).map fun j=>P.getD j 0*pow (inv al) (i*j)
theorem S2(P:List GF)(i:Nat):(Sa P i).length=P.length:=by simp[Sa]
theorem Yw(P:List GF)(i:Nat):SG (Sa P i)=pv P (inv (pow al i)):=by
 rw[Sa,VF,SO (aI _),Uq qA]
 exact RA _ fun j _=>by rw[wZ]
theorem Yx(P:List GF):Sa P 0=P:=by
 refine vJ (S2 P 0) fun j=>?_
 by_cases h:j<P.length
 ·simp[Sa,bF,h,pow,mul_one]
 rw[R1 aaU,R1 a_]
theorem Yv(P:List GF)(i:Nat):List.zipWith (·* ·) (Sa P i) ((List.range P.length).map (pow (inv al)))=Sa P (i+1):=by
 unfold Sa
 rw[List.zipWith_map,List.zipWith_self]
 refine Rw fun j _=>?_
 rw[mul_assoc,←pow_add];congr 2;rw[V_,Nat.one_mul]
theorem UY(a1:Int×Int×Int)(bk pls:List Int)(i:Int)(ts:List GF)(ht:ts.length<1000):∀(d x k:Nat)(s:GF),x+d=ts.length→
 cE.l2 (k+d+1) a1 bk (bi ts) pls i ((s.1:Nat):Int) (x:Int)=cE.j1 (cE.l1 k) k a1 bk (bi ts) pls i (((s+SG (ts.drop x)).1:Nat):Int)
 |0,x,k,s,hx=>by
  rw[cE.l2,aQ g_,Θ a_,SG,add_zero]
 |d+1,x,k,s,hx=>by
  have hi:x<ts.length:=a_
  rw[show k+(d+1)+1=(k+d+1)+1 by omega,cE.l2,bh g_,aF g_,cI,xor_val,bT a_,UY a1 bk pls i ts ht d (x+1) k _ a_,δ hi,SG,←dG hi,add_assoc]
def RF(N:Nat)(P:List GF):List Nat:=(List.range N).filter fun i=>decide (pv P (inv (pow al i))=0)
theorem Xt(i:Nat)(P:List GF):RF (i+1) P=RF i P++(if pv P (inv (pow al i))=0 then [i]else []):=by
 unfold RF
 rw[EW,ZG,Le,aaf]
 by_cases h:pv P (inv (pow al i))=0
 ·rw[M_ (W_ h),M_ h]
 rw[I_ (by rw[θ h];simp),I_ h]
theorem U1(N:Nat)(P:List GF):(RF N P).length≤N:=by
 have:=xJ (fun i=>decide (pv P (inv (pow al i))=0)) (List.range N)
 rw[yC]at this;exact this
theorem UX{N K B:Nat}{P:List GF}(hN:N≤255)(hP:P.length<300):∀(d i k:Nat),i+d=N→d*(P.length+3)<k→
 cE.l1 k ((N:Int),(K:Int),(B:Int)) (bi ((List.range P.length).map (pow (inv al)))) (bi (Sa P i)) (ints (RF i P)) (i:Int)=some (ints (RF N P))
 |d,i,0,_,h=>a_
 |0,i,k+1,hd,hk=>by
  obtain rfl:i=N:=a_
  rw[cE.l1,aQ rG]
 |d+1,i,k+1,hd,hk=>by
  have hmul:(d+1)*(P.length+3)=d*(P.length+3)+P.length+3:=O_
  obtain⟨k,rfl⟩:∃k',k=k'+P.length+1:=⟨k-P.length-1,a_⟩
  have h2:=UY ((N:Int),(K:Int),(B:Int)) (bi ((List.range P.length).map (pow (inv al)))) (ints (RF i P)) (i:Int) (Sa P i) aaU P.length 0 k 0 aaU
  have hle:=U1 i P
  have ih:=UX hN hP (K:=K) (B:=B) d (i+1) k a_ a_
  rw[Xt]at ih
  rw[Γ,zero_add,Yw,show(((0:GF).1:Nat):Int)=0 from rfl,show((0:Nat):Int)=0 from rfl]at h2
  have hj:∀L,cE.j2 (cE.l1 k) k ((N:Int),(K:Int),(B:Int)) (bi ((List.range P.length).map (pow (inv al)))) (bi (Sa P i)) (i:Int) L=cE.l1 k ((N:Int),(K:Int),(B:Int)) (bi ((List.range P.length).map (pow (inv al)))) (bi (Sa P (i+1))) L ((i+1:Nat):Int):=fun L=>by
   unfold cE.j2
   rw[Aj _ _ aaU,aJ,Yv,bT a_]
  rw[cE.l1,bh rG,h2]
  unfold cE.j1
  by_cases h0:pv P (inv (pow al i))=0
  ·rw[M_ h0]at ih
   rw[bh (by rw[h0];rfl),aF BC,hj,←ih,Up];rfl
  rw[I_ h0,fQ]at ih
  rw[aQ (fun x=>h0 (GF.ext aaS)),hj,ih]
theorem UW{N K B:Nat}{P:List GF}(hP:P.length<300):∀(d j k:Nat),j+d=P.length→cE.l0 (k+d+1) ((N:Int),(K:Int),(B:Int)) (bi P) (bi P) (bi ((List.range j).map (pow (inv al))++List.replicate d 0)) (j:Int)=cE.l1 k ((N:Int),(K:Int),(B:Int)) (bi ((List.range P.length).map (pow (inv al)))) (bi P) [] 0
 |0,j,k,hj=>by
  obtain rfl:j=P.length:=a_
  rw[cE.l0,aQ j_];simp[cE.j0]
 |d+1,j,k,hj=>by
  rw[show k+(d+1)+1=(k+d+1)+1 by omega,cE.l0,bh l_,Xx a_,aJ,aF EN,n_,gY,vF _ _ _ _ j_,bT a_]
  have e:(List.range j).map (pow (inv al))++[pow (inv al) j]=(List.range (j+1)).map (pow (inv al)):=by simp[EW]
  rw[e]
  exact UW hP d (j+1) k a_
theorem Ue{p:List GF}(h:p.length<1000):dM.f (bi p)=some (bi p):=by
 unfold dM.f;rw[aF g_]
theorem UZ{N K B k:Nat}{P:List GF}(hc:Cd N K B)(hP:P.length<300)(hk:200000<k):cE.f k ((N:Int),(K:Int),(B:Int)) (bi P)=some (ints (RF N P)):=by
 obtain⟨c1,c2,c3,c4⟩:=id hc
 have hb:N*(P.length+3)≤255*303:=Φ a_ a_
 obtain⟨k,rfl⟩:∃k',k=k'+P.length+1:=⟨k-P.length-1,a_⟩
 unfold cE.f
 simp only
 rw[jX hc,aJ,cH rfl,Ue a_,aJ,aF g_,YO,n_,gZ]
 have h0:=UW (N:=N) (K:=K) (B:=B) hP P.length 0 k a_
 have h1:=UX (N:=N) (K:=K) (B:=B) c3 hP N 0 k a_ a_
 rw[Yx]at h1
 exact h0.trans h1
theorem Wx{S P:List GF}{k:Nat}(h:S.length+P.length≤250)(hk:100000<k):∃O,O.length≤S.length∧(∀j<S.length,O.getD j 0=(fH P S).getD j 0)∧ny.f k (bi S) (bi P)=some (bi O):=by
 obtain⟨q,hq⟩:∃q,q=aW (fH S P):=⟨_,rfl⟩
 have hl:=gP (q.take S.length)
 rw[ζ]at hl
 refine⟨aW (q.take S.length),a_,fun j hj=>by rw[jR,Uj hj,hq,jR,U2 a_],?_⟩
 have hm:max2 0 (min2 ((bi S).length:Int) ((bi q).length:Int))=((min S.length q.length:Nat):Int):=by
  rw[YO,YO];unfold max2 min2;split<;>split<;>omega
 have hle:=gP (fH S P)
 have hle2:=SN S P
 unfold ny.f qf.f
 rw[SM h hk,aJ,←hq,hm,aF g_,n_,Γ,lh,lK IK IK]
 have:q.take (min S.length q.length)=q.take S.length:=by rw[←abb,EU]
 rw[this];rfl
def Y3(B:Nat)(y:GF):GF:=if B=0 then inv y else pow y (B-1)
theorem Xm{B:Nat}(hB:B≤254){y:GF}(hy:y≠0):jK.f ((y.1:Nat):Int) (I U ((B:Int)-1))=some (((Y3 B y).1:Nat):Int):=by
 rw[ca a_ a_]
 unfold Y3
 by_cases h:B=0
 ·subst h
  have:=TA hy (j:=1) a_
  rw[GF.pow_one]at this
  rw[M_ rfl];exact this
 rw[I_ h,show(B:Int)-1=((B-1:Nat):Int) by omega,Ak _ a_]
theorem Wz:fN.f 0=some (0,false):=rfl
section
variable{N K B:Nat}{O P:List GF}{pls:List Nat}
theorem VN(a1:Int×Int×Int)(h:∀i∈pls,i<1000)(hl:pls.length<1000):∀(d x k:Nat),x+d=pls.length→
 eu.l0 (k+d+1) a1 (bi O) (bi P) (ints pls) (bi ((pls.take x).map (fun i=>inv (pow al i))++List.replicate d 0)) (x:Int)=eu.j0 (eu.l1 k) k a1 (bi O) (bi P) (bi (pls.map fun i=>inv (pow al i)))
 |0,x,k,hx=>by
  rw[eu.l0,aQ G_,D_ a_];simp
 |d+1,x,k,hx=>by
  have hi:x<pls.length:=a_
  have hm:pls.getD x 0∈pls:=by rw[bF,C_ hi];exact T_ hi
  have hb:=h _ hm
  have hn:=TA (oh qA (pls.getD x 0)) (j:=1) a_
  rw[GF.pow_one]at hn
  rw[show k+(d+1)+1=(k+d+1)+1 by omega,eu.l0,bh G_,aF G_,ints_at hi,wY a_,aJ,show(-1:Int)= -((1:Nat):Int) from rfl,hn,aJ,aF EN,n_,gY,vF _ _ _ _ l_,bT a_]
  have e:(pls.take x).map (fun i=>inv (pow al i))++[inv (pow al (pls.getD x 0))]=(pls.take (x+1)).map (fun i=>inv (pow al i)):=by rw[S1 hi];simp
  rw[e]
  exact VN a1 h hl d (x+1) k a_
theorem VP(hB:B≤254){ys:List GF}(hy:∀y∈ys,y≠0)(f:GF→GF)(hl:ys.length<1000):∀(d x k:Nat),x+d=ys.length→d<k→
 eu.l2 k ((N:Int),(K:Int),(B:Int)) (bi ys) (bi ((ys.take x).map (fun y=>f y*Y3 B y)++(ys.drop x).map f)) (x:Int)=some (bi (ys.map fun y=>f y*Y3 B y),true)
 |d,x,0,_,h=>a_
 |0,x,k+1,hx,hk=>by
  rw[eu.l2,aQ g_,D_ a_,Θ a_];simp
 |d+1,x,k+1,hx,hk=>by
  have hi:x<ys.length:=a_
  have hm:ys.getD x 0∈ys:=by rw[dG hi];exact T_ hi
  have hlen:((ys.take x).map (fun y=>f y*Y3 B y)).length=x:=l_
  have hg:((ys.take x).map (fun y=>f y*Y3 B y)++(ys.drop x).map f).getD x 0=f (ys.getD x 0):=by
   rw[bF,ε a_,hlen,Ff]
   simp[bF,hi]
  have hlt:((ys.take x).map (fun y=>f y*Y3 B y)++(ys.drop x).map f).length=ys.length:=l_
  rw[eu.l2,bh g_,aF g_,aF g_,cI,cI,hg]
  simp only
  rw[Xm hB (hy _ hm),aJ,ru,aJ,aF g_,n_,gY,bT a_]
  have e:((ys.take x).map (fun y=>f y*Y3 B y)++(ys.drop x).map f).set x (f (ys.getD x 0)*Y3 B (ys.getD x 0))=(ys.take (x+1)).map (fun y=>f y*Y3 B y)++(ys.drop (x+1)).map f:=by
   rw[DZ _ _ a_,hlen,Ff,δ hi,ι,FM,y_ hi,Fg,DX,dG hi];rfl
  rw[e]
  exact VP hB hy f hl d (x+1) k a_ a_
theorem VO(hB:B≤254){ys:List GF}(hy:∀y∈ys,y≠0)(u v:GF→GF)(hl:ys.length<1000):∀(d x k:Nat),x+d=ys.length→3000+d<k→∃res,
 eu.l1 k ((N:Int),(K:Int),(B:Int)) (bi ys) (bi (ys.map u)) (bi (ys.map v)) (bi ((ys.take x).map fun y=>u y*inv (v y))) (x:Int)=some res∧((res=([],false)∧∃y∈ys,v y=0)∨res=(bi (ys.map fun y=>u y*inv (v y)*Y3 B y),true))
 |d,x,0,_,h=>a_
 |0,x,k+1,hx,hk=>by
  have h2:=VP (N:=N) (K:=K) hB hy (fun y=>u y*inv (v y)) hl ys.length 0 k a_ a_
  refine⟨_,?_,.inr rfl⟩
  rw[eu.l1,aQ aak,D_ a_]
  unfold eu.j1
  simp only[ν,U_]
  rw[bP,rW,ψ,Γ]at h2
  exact h2
 |d+1,x,k+1,hx,hk=>by
  have hi:x<ys.length:=a_
  have hm:ys.getD x 0∈ys:=by rw[dG hi];exact T_ hi
  have hmap:∀w:GF→GF,(ys.map w).getD x 0=w (ys.getD x 0):=fun w=>aaj
  have hstep:eu.l1 (k+1) ((N:Int),(K:Int),(B:Int)) (bi ys) (bi (ys.map u)) (bi (ys.map v)) (bi ((ys.take x).map fun y=>u y*inv (v y))) (x:Int)=(nJ.f (((u (ys.getD x 0)).1:Nat):Int) (((v (ys.getD x 0)).1:Nat):Int)).bind fun z=>bif !z.2 then some ([],false)else eu.l1 k ((N:Int),(K:Int),(B:Int)) (bi ys) (bi (ys.map u)) (bi (ys.map v)) (bi ((ys.take x).map fun y=>u y*inv (v y))++[z.1]) ((x+1:Nat):Int):=by
   rw[eu.l1,bh aak,aF EM,aF EM,cI,cI,hmap,hmap,bT a_]
   congr 1;funext z
   rw[aF (by rw[YO,x_,ζ];simp only[r_,N_];omega)]
   rfl
  by_cases h0:v (ys.getD x 0)=0
  ·refine⟨([],false),?_,.inl ⟨rfl,_,hm,h0⟩⟩
   rw[hstep,h0]
   unfold nJ.f
   rw[show(((0:GF).1:Nat):Int)=0 from rfl,Wz];rfl
  obtain⟨res,r1,r2⟩:=VO hB hy u v hl d (x+1) k a_ a_
  refine⟨res,?_,r2⟩
  rw[hstep,II _ h0,aJ]
  simp only[ν,U_]
  rw[←r1];congr 1
  rw[y_ hi,Fg,gb,dG hi];rfl
theorem YB(hc:Cd N K B)(hO:O.length<900)(hP:P.length<900)(h:∀i∈pls,i<1000)(hl:pls.length<900){k:Nat}(hk:9000<k):∃res,eu.f k ((N:Int),(K:Int),(B:Int)) (bi O) (bi P) (ints pls)=some res∧
 ((res=([],false)∧∃i∈pls,po (inv (pow al i)) P=0)∨res=(bi (pls.map fun i=>pv O (inv (pow al i))*inv (po (inv (pow al i)) P)*Y3 B (inv (pow al i))),true)):=by
 obtain⟨c1,c2,c3,c4⟩:=id hc
 obtain⟨k,rfl⟩:∃k',k=k'+pls.length+1:=⟨k-pls.length-1,a_⟩
 have h0:=VN (O:=O) (P:=P) ((N:Int),(K:Int),(B:Int)) h a_ pls.length 0 k a_
 rw[bP,rW,ψ]at h0
 have hy:∀y∈pls.map (fun i=>inv (pow al i)),y≠0:=fun y hy=>by
  obtain⟨i,_,rfl⟩:=uV.1 hy
  exact tu (oh qA i)
 have hsl:=gP (dE P.tail)
 have hsl2:=(sJ P.tail).1
 rw[List.length_tail]at hsl2
 obtain⟨res,r1,r2⟩:=VO (N:=N) (K:=K) (B:=B) c4 hy (pv O) (fun y=>po y P) Fe (pls.map fun i=>inv (pow al i)).length 0 k a_ Fe
 rw[bP,rW]at r1
 refine⟨res,?_,r2.imp (fun⟨a,y,b,c⟩=>⟨a,by obtain⟨i,hi,rfl⟩:=uV.1 b;exact⟨i,hi,c⟩⟩) fun a=>by rw[a,Z8];rfl⟩
 unfold eu.f
 simp only
 rw[jX hc,aJ,cH rfl,iQ,aF a_,n_,gZ]
 refine h0.trans ?_
 unfold eu.j0
 rw[uW a_ Fe a_,aJ,Gz a_ a_,aJ,uW a_ Fe a_,aJ]
 have e:(pls.map fun i=>inv (pow al i)).map (pv (aW (dE P.tail)))=(pls.map fun i=>inv (pow al i)).map fun y=>po y P:=Rw fun y _=>by rw[fG,GB]
 rw[e];exact r1
end
def RU:List GF→List Nat→(Nat→GF)→List GF
 |r,[],_=>r
 |r,i::t,f=>RU (r.set i (r.getD i 0+f i)) t f
theorem UE(f:Nat→GF):∀(t:List Nat)(r:List GF),(RU r t f).length=r.length
 | [],_=>rfl
 |i::t,r=>by rw[RU,UE f t,υ]
theorem UD(f:Nat→GF)(j:Nat):∀(t:List Nat)(r:List GF),t.Nodup→(∀i∈t,i<r.length)→(RU r t f).getD j 0=if j∈t then r.getD j 0+f j else r.getD j 0
 | [],r,_,_=>by rw[RU,I_ j_]
 |i::t,r,hn,hb=>by
  obtain⟨h1,h2⟩:=wI.1 hn
  have hi:=hb i H_
  rw[RU,UD f j t _ h2 fun x hx=>by rw[υ];exact hb x (o_ _ hx)]
  by_cases e:j=i
  ·subst e
   rw[I_ h1,M_ H_,bF,Ou hi];rfl
  have e2:(r.set i (r.getD i 0+f i)).getD j 0=r.getD j 0:=by rw[bF,PZ (fun x=>e x.symm),←bF]
  rw[e2]
  by_cases h:j∈t
  ·rw[M_ h,M_ (o_ _ h)]
  rw[I_ h,I_ fun hm=>(X_.1 hm).elim e h]
theorem UF{pls:List Nat}(f:Nat→GF)(hl:pls.length<1000):∀(d x k:Nat)(r:List GF),x+d=pls.length→d<k→r.length<1000→(∀i∈pls,i<r.length)→fD.l0 k (ints pls) (bi (pls.map f)) (bi r) (x:Int)=some (bi (RU r (pls.drop x) f))
 |d,x,0,_,_,h,_,_=>a_
 |0,x,k+1,r,hx,hk,hr,hb=>by
  rw[fD.l0,aQ (by rw[iQ,YO,x_,tI];omega),Θ a_,RU]
 |d+1,x,k+1,r,hx,hk,hr,hb=>by
  have hi:x<pls.length:=a_
  have hm:pls.getD x 0∈pls:=by rw[bF,C_ hi];exact T_ hi
  have hb':=hb _ hm
  have hv:(pls.map f).getD x 0=f (pls.getD x 0):=aaj
  have e:pls.drop x=pls.getD x 0::pls.drop (x+1):=by rw[δ hi];simp[bF,hi]
  rw[fD.l0,bh (by rw[iQ,YO,x_,tI];omega),aF G_,ints_at hi,bh a_]
  unfold fD.j0
  rw[bh g_,ints_at hi,aF g_,aF EM,aF g_,cI,cI,hv,xor_val,n_,gY,bT a_,e,RU]
  exact UF f hl d (x+1) k _ a_ a_ (by rw[υ];exact hr) fun i hi=>by rw[υ];exact hb i hi
theorem Xe{pls:List Nat}(f:Nat→GF){r:List GF}{k:Nat}(hl:pls.length<1000)(hr:r.length<1000)(hb:∀i∈pls,i<r.length)(hk:2000<k):fD.f k (bi r) (ints pls) (bi (pls.map f))=some (bi (RU r pls f)):=by
 unfold fD.f
 rw[Ue hr,aJ]
 exact UF f hl pls.length 0 k r a_ a_ hr hb
def Tl(N K B:Nat)(r:List GF)(e:List Nat)(res:List Int×Bool):Prop:=(res=([],false)∧∀W,¬RL N K B r W e)∨∃W,RL N K B r W e∧res=(bi W,true)
structure SV (N K B:Nat) (r:List GF) (e:List Nat):Prop where
 c:Cd N K B
 N60:N≤40
 r:r.length=N
 nd:e.Nodup
 lt:∀i∈e,i<N
 few:e.length≤N-K
section
variable{N K B:Nat}{r:List GF}{e:List Nat}(J:SV N K B r e)
include J
theorem SV.er{k:Nat}(hk:2000<k):dA.f k ((N:Int),(K:Int),(B:Int)) (ints e)=some 0:=by
 have h1:=J.few;have h2:=J.N60
 rw[S5 J.c a_ J.lt hk,M_ J.nd]
omit J in
theorem Sk(hN:N≤40):∀i<N,∀j<N,pow al i=pow al j→i=j:=fun i hi j hj h=>by
 rcases Nat.lt_trichotomy i j with h1|h1|h1
 ·exact absurd h (NA h1 a_)
 ·exact h1
 exact absurd h.symm (NA h1 a_)
theorem UG{O P:List GF}{k:Nat}(hO:O.length<300)(hP:P.length<300)(hk:300000<k):∃res,kH.f k (((N:Int),(K:Int),(B:Int)),bi r,ints e) (bi O) (bi P)=some res∧(res=([],false)∨∃w,RL N K B r w e∧res=(bi w,true))∧
 ∀W,RL N K B r W e→(∀i<N,pv P (inv (pow al i))=0↔i∈pl N r W e)→(∀i∈pl N r W e,po (inv (pow al i)) P≠0∧pv O (inv (pow al i))*inv (po (inv (pow al i)) P)=YW al B r W i*inv (pow al i))→res=(bi W,true):=by
 obtain⟨c1,c2,c3,c4⟩:=id J.c
 have hr:=J.r
 have hlt:∀i∈RF N P,i<N:=fun i hi=>φ.1 (Lt.1 hi).1
 have hle:=U1 N P
 obtain⟨res,r1,r2⟩:=YB (O:=O) (P:=P) (pls:=RF N P) J.c a_ a_ (fun i hi=>by have:=hlt i hi;omega) a_ (k:=k) a_
 rcases r2 with⟨rfl,i,hi,h0⟩|rfl
 ·refine⟨([],false),?_,.inl rfl,fun W hW h1 h2=>?_⟩
  ·unfold kH.f
   simp only
   rw[UZ J.c a_ a_,aJ,r1];rfl
  have hz:pv P (inv (pow al i))=0:=aT (Lt.1 hi).2
  exact absurd h0 (h2 i ((h1 i (hlt i hi)).1 hz)).1
 obtain⟨f,hf⟩:∃f:Nat→GF,f=fun i=>pv O (inv (pow al i))*inv (po (inv (pow al i)) P)*Y3 B (inv (pow al i)):=⟨_,rfl⟩
 rw[←hf]at r1
 have hml:(RU r (RF N P) f).length=N:=by rw[UE,hr]
 have hm:kH.f k (((N:Int),(K:Int),(B:Int)),bi r,ints e) (bi O) (bi P)=some (bif R0 N K B r (RU r (RF N P) f) e then(bi (RU r (RF N P) f),true)else([],false)):=by
  unfold kH.f
  simp only
  rw[UZ J.c a_ a_,aJ,r1,aJ]
  simp only[ν,U_]
  rw[Xe f a_ a_ (fun i hi=>by rw[hr];exact hlt i hi) a_,aJ,T9 J.c hr hml J.few (J.er a_) a_,aJ]
  cases R0 N K B r (RU r (RF N P) f) e<;>rfl
 refine⟨_,hm,?_,fun W hW h1 h2=>?_⟩
 ·cases ha:R0 N K B r (RU r (RF N P) f) e with
  |false=>exact .inl rfl
  |true=>exact .inr ⟨_,(SJ hml).1 ha,rfl⟩
 have hpl:∀i<N,(i∈RF N P↔i∈pl N r W e):=fun i hi=>by
  rw[←h1 i hi]
  exact⟨fun h=>aT (Lt.1 h).2,fun h=>Lt.2 ⟨φ.2 hi,W_ h⟩⟩
 have hw:RU r (RF N P) f=W:=by
  refine vJ (by rw[hml,hW.len]) fun j=>?_
  rw[UD f j (RF N P) r (List.nodup_range.filter _) fun i hi=>by rw[hr];exact hlt i hi]
  by_cases hj:j<N
  ·by_cases hm:j∈RF N P
   ·rw[M_ hm]
    have h3:=(h2 j ((hpl j hj).1 hm)).2
    have h4:=YE qA B r W j
    have:f j=r.getD j 0+W.getD j 0:=by
     rw[hf];show pv O (inv (pow al j))*inv (po (inv (pow al j)) P)*Y3 B (inv (pow al j))=_
     rw[h3];unfold Y3
     by_cases hB:B=0
     ·rw[M_ hB];exact h4.2 hB
     rw[I_ hB];exact h4.1 a_
    rw[this,me]
   rw[I_ hm]
   refine xq fun hne=>hm ((hpl j hj).2 ?_)
   by_cases he:j∈e
   ·exact Gx _ he
   exact FC _ (Sf.2 ⟨hj,hne,he⟩)
  rw[I_ fun hm=>hj (hlt j hm),R1 a_,R1 (by rw[hW.len];omega)]
 rw[hw,(SJ hW.len).2 hW];rfl
omit J in
theorem TX{j M:Nat}(h:j<M)(f:GF→GF):((eQ B M).map f).getD j 0=f (pow al (B+j)):=by simp[eQ,bF,h]
theorem Uv{k:Nat}(hk:300000<k):∃G T,G.length≤e.length+1∧(∀t,pv G t=Rx al e t)∧T.length=N-K∧(∀j<N-K,T.getD j 0=(fH G ((eQ B (N-K)).map (pv r))).getD j 0)∧
 kG.f k (((N:Int),(K:Int),(B:Int)),bi r,ints e)=some (bi ((eQ B (N-K)).map (pv r)),bi G,bi T):=by
 have h1:=J.few;have h2:=J.N60;have h3:=J.c.1
 obtain⟨G,g1,g2,g3⟩:=Xb (e:=e) (k:=k) a_ (fun n hn=>by have:=J.lt n hn;omega) a_
 have hl:((eQ B (N-K)).map (pv r)).length=N-K:=by rw[x_,lS]
 obtain⟨T,t1,t2,t3⟩:=Xg (S:=(eQ B (N-K)).map (pv r)) (G:=G) (k:=k) (by rw[hl];omega) a_
 rw[hl]at t1 t2
 refine⟨G,T,g1,g2,t1,t2,?_⟩
 unfold kG.f
 simp only
 rw[Yu J.c J.r a_,aJ,g3,aJ,t3];rfl
theorem XQ{k:Nat}(hk:300000<k):∃res,oI.f k (((N:Int),(K:Int),(B:Int)),bi r,ints e)=some res∧Tl N K B r e res:=by
 have h1:=J.few;have h2:=J.N60
 obtain⟨G,T,g1,g2,t1,t2,l1⟩:=Uv J hk
 have hSl:((eQ B (N-K)).map (pv r)).length=N-K:=by rw[x_,lS]
 have hTl:(T.drop e.length).length=N-K-e.length:=by rw[FT,t1]
 obtain⟨l,n,was,lack,ago,hreg,m1,m2⟩:=Xd (T:=T.drop e.length) (k:=k) a_ a_
 have hdeg:=hreg.deg
 have hle:=hreg.le
 have hP:=gP (fH l G)
 have hP2:=SN l G
 obtain⟨O,o1,o2,o3⟩:=Wx (S:=(eQ B (N-K)).map (pv r)) (P:=aW (fH l G)) (k:=k) a_ a_
 obtain⟨res,r1,r2,r3⟩:=UG J (O:=O) (P:=aW (fH l G)) (k:=k) a_ a_ a_
 refine⟨res,?_,?_⟩
 ·unfold oI.f
  simp only
  rw[l1,aJ]
  simp only
  rw[EU,iQ,aF (by rw[YO,t1];omega),n_,nu,m1,aJ]
  simp only
  rw[SM a_ a_,aJ,o3,aJ,r1];rfl
 rcases r2 with rfl|⟨w,hw,rfl⟩
 ·refine .inl ⟨rfl,fun W hW=>?_⟩
  have hS:∀j<N-K,((eQ B (N-K)).map (pv r)).getD j 0=pv r (pow al (B+j)):=fun j hj=>TX hj _
  have hp:=(UK qA (Sk J.N60) J.r J.nd J.lt hW hS g1 g2 t2).drop
  rw[←hTl]at hp
  have hf:=hW.fits
  have hn:=m2 _ _ _ hp
  have hz:=XM hreg hp hn a_
  have hG:G≠ []:=fun e0=>by
   have:=g2 0
   rw[S8,e0]at this
   exact tX this.symm
  have hP3:=Te (p:=l) hG
  have:=UJ qA (Sk J.N60) (P:=aW (fH l G)) (O:=O) J.r J.nd J.lt hW hS g2 hz hreg.one a_ (fun t=>by rw[fG,rP]) a_ fun j hj=>by rw[o2 j a_]
  exact absurd (L_ Prod.snd (r3 W hW this.1 this.2)) j_
 exact .inr ⟨w,hw,rfl⟩
end
theorem WC{p d:List GF}{k:Nat}(hp:p.length<250)(hd:d.length<250)(hd0:aW d≠ [])(hk:80000<k):
 ∃R q:List GF,cU.f k (bi p) (bi d)=some (bi (aW q),bi R,true)∧R.length<(aW d).length∧aW R=R∧q.length=(aW p).length+1-(aW d).length∧∀x,pv p x=pv q x*pv (aW d) x+pv R x:=by
 have hpos:=Bz.2 hd0
 obtain⟨s,hs⟩:∃s,(aW d).length=s+1:=⟨_,(Lm hpos).symm⟩
 have hle:=gP d
 have hlp:=gP p
 have htake:d.take (s+1)=aW d:=by rw[←hs];exact tQ d
 have hlast:=pY hd0
 rw[hs,FK]at hlast
 have hat:d.getD s 0=(aW d).getD s 0:=(jR d s).symm
 have e2:I U (((bi (aW p)).length:Int)-(s:Int))=((aW p).length:Int)-(s:Int):=by rw[YO];exact ca a_ a_
 have hm:max2 (((aW p).length:Int)-(s:Int)) 0=(((aW p).length-s:Nat):Int):=Z9
 have hmul:(aW p).length*(s+8)≤250*260:=Φ a_ a_
 obtain⟨R,q',r1,r2,r3,r4,r5⟩:=Ao (g:=d) htake hs a_ a_ rfl hlast a_ (aW p).length (aW p) (List.replicate ((aW p).length-s) 0) k (aI _) a_ FV FV a_ (wH p) fun j hj=>by
  simp[bF,Fp,hj]
 refine⟨R,q',?_,a_,r2,by rw[r3,P_];omega,fun x=>?_⟩
 ·unfold cU.f
  rw[qP a_ a_,hs,aJ,show((s+1:Nat):Int)-1=(s:Int) by omega,aQ a_,aF g_,cI,hat,sX hlast,aJ,lK a_ a_,aJ,e2,hm,aF a_,n_,gZ]
  exact r5
 have:=r4 x
 rw[ic,GF.zero_mul,GF.add_zero,fG]at this
 exact this
theorem Vx{T:List GF}{M s:Nat}(hM:M≤60)(hs:0<s):∀(n:Nat)(r0 r1 v0 v1:List GF)(k:Nat),r1.length≤n→n+200000<k→Sb T M r0 r1 v0 v1→aW r1=r1→
 ∃r0' r1' v0' v1',Sb T M r0' r1' v0' v1'∧r1'.length≤s∧jH.l0 k (s:Int) (bi r0) (bi r1) (bi v1) (bi v0)=some (bi r1',bi v1')∧
  ∀(D:List Nat)(z x:Nat→GF)(e:Nat),RN D z x e M T→2*D.length+e≤M→D.length+e≤s→v1.length≤D.length+1→v1'.length≤D.length+1
 |n,r0,r1,v0,v1,0,_,h,_,_=>a_
 |n,r0,r1,v0,v1,k+1,hn,hk,hr,hnr=>by
  have a1:=hr.l0;have a2:=hr.lv;have a3:=hr.lm;have a5:=hr.lr
  have hv1:v1≠ []:=fun e0=>Vz hr a_ (by rw[e0];simp)
  have a4:=Bz.2 hv1
  have hdeg:eN.f k (bi r1)=some ((r1.length:Int)-1):=by rw[qP a_ a_,hnr]
  have hmax:max2 (s:Int) 0=(s:Int):=Z9
  by_cases hle:r1.length≤s
  ·refine⟨r0,r1,v0,v1,hr,hle,?_,fun _ _ _ _ _ _ _ h=>h⟩
   rw[jH.l0,hdeg,aJ,hmax,aQ a_]
  have hne:r1≠ []:=fun e0=>hle (by rw[e0];simp)
  obtain⟨R,q,q1,q2,q3,q4,q5⟩:=WC (p:=r0) (d:=r1) (k:=k) a_ a_ (by rw[hnr];exact hne) a_
  rw[hnr]at q2 q4 q5
  have hn0:=gP r0
  have hnq:=gP q
  have m1:=gP (fH (aW q) v1)
  have m2:=Te (p:=aW q) hv1
  have m3:=gP (pad v0 (aW (fH (aW q) v1)))
  rw[og]at m3
  have hstep:Sb T M r1 R v1 (aW (pad v0 (aW (fH (aW q) v1)))):=Yb hr a_ hne q2 a_ q5 a_ fun x=>by rw[fG,mU,fG,rP,fG]
  match n,hn,hk with
  |0,hn,hk=>omega
  |n+1,hn,hk=>
   obtain⟨r0',r1',v0',v1',w1,w2,w3,w4⟩:=Vx hM hs n r1 R v1 (aW (pad v0 (aW (fH (aW q) v1)))) k a_ a_ hstep q3
   refine⟨r0',r1',v0',v1',w1,w2,?_,fun D z x e hp h1 h2 h3=>w4 D z x e hp h1 h2 ?_⟩
   ·rw[jH.l0,hdeg,aJ,hmax,bh a_,q1,aJ]
    simp only
    rw[SM a_ a_,aJ,Ua a_ a_ a_,aJ]
    exact w3
   have:=X8 hp hr h1 h3 hnr a_ a_
   have b1:=hstep.lm
   omega
theorem WJ{T:List GF}{e k:Nat}(hM:T.length≤60)(h0:0<T.length)(he:e≤T.length)(hk:300000<k):∃r0 r1 v0 v1,Sb T T.length r0 r1 v0 v1∧r1.length≤(T.length+e+1)/2∧
 nH.f k (bi T) (e:Int)=some (if v1.getD 0 0=0 then([],[],false)else(bi (aW (v1.map (inv (v1.getD 0 0)* ·))),bi (aW (r1.map (inv (v1.getD 0 0)* ·))),true))∧
  ∀(D:List Nat)(z x:Nat→GF),RN D z x e T.length T→2*D.length+e≤T.length→v1.length≤D.length+1:=by
 have hnT:=gP T
 obtain⟨r0,r1,v0,v1,w1,w2,w3,w4⟩:=Vx (T:=T) (M:=T.length) (s:=(T.length+e+1)/2) hM a_ (aW T).length (List.replicate T.length 0++[1]) (aW T) [] [1] k (aI _) a_ (X9 (Ya (aI _))) (wH T)
 refine⟨r0,r1,v0,v1,w1,w2,?_,fun D z x hp h=>w4 D z x e hp h a_ j_⟩
 have hst:I U (Int.tdiv (I U (I U ((T.length:Int)+(e:Int))+1)) 2)=(((T.length+e+1)/2:Nat):Int):=by
  rw[ca (x:=(T.length:Int)+(e:Int)) a_ a_,ca (x:=(T.length:Int)+(e:Int)+1) a_ a_,EP a_,ca a_ a_];omega
 have hnx:aW (List.replicate T.length (0:GF)++[1])=List.replicate T.length 0++[1]:=by rw[jm,I_ tX]
 have hrun:jH.f k (List.replicate T.length (0:Int)++[1]) (bi T) (((T.length+e+1)/2:Nat):Int)=some (bi r1,bi v1):=by
  unfold jH.f
  rw[gZ,show([1]:List Int)=bi [1] from rfl,←gb,lK l_ l_,aJ,lK a_ a_,aJ,hnx]
  exact w3
 have hl1:=w1.lm
 have hl2:=w1.l0
 unfold nH.f
 rw[aQ a_,YO,aQ a_,aF a_,n_,aF l_,hst,hrun,aJ]
 simp only
 rw[show(0:Int)=((0:Nat):Int) from rfl,Ty,aJ]
 by_cases hz:v1.getD 0 0=0
 ·rw[M_ hz,hz];rfl
 rw[I_ hz,sX hz,aJ]
 simp only[ν,U_]
 rw[TZ a_ a_,aJ,TZ a_ a_,aJ]
section
variable{N K B:Nat}{r:List GF}{e:List Nat}(J:SV N K B r e)
include J
theorem XR{k:Nat}(hk:400000<k):∃res,oJ.f k (((N:Int),(K:Int),(B:Int)),bi r,ints e)=some res∧Tl N K B r e res:=by
 have h1:=J.few;have h2:=J.N60
 obtain⟨c1,c2,c3,c4⟩:=id J.c
 obtain⟨G,T,g1,g2,t1,t2,l1⟩:=Uv J (k:=k) a_
 obtain⟨r0,r1,v0,v1,hw,k1,k2,k3⟩:=WJ (T:=T) (e:=e.length) (k:=k) a_ a_ a_ a_
 have hl1:=hw.lm
 have hl2:=hw.l0
 have RS:∀W,RL N K B r W e→RN (wr N r W e) (fun i=>YW al B r W i*Rx al e (inv (pow al i))) (pow al) e.length T.length T:=fun W hW=>by
  rw[t1];exact UK qA (Sk J.N60) J.r J.nd J.lt hW (fun j hj=>TX hj _) g1 g2 t2
 have hend:∀W,RL N K B r W e→(∀i∈wr N r W e,pv v1 (inv (pow al i))=0)∧v1.getD 0 0≠0:=fun W hW=>by
  have hf:=hW.fits
  exact X7 (RS W hW) hw (k3 _ _ _ (RS W hW) a_) a_ k1 a_
 by_cases hz:v1.getD 0 0=0
 ·refine⟨([],false),?_,.inl ⟨rfl,fun W hW=>(hend W hW).2 hz⟩⟩
  unfold oJ.f
  simp only
  rw[l1,aJ]
  simp only
  rw[iQ,k2,M_ hz,aJ];rfl
 obtain⟨l,hl⟩:∃l,l=aW (v1.map (inv (v1.getD 0 0)* ·)):=⟨_,rfl⟩
 obtain⟨O,hO⟩:∃O,O=aW (r1.map (inv (v1.getD 0 0)* ·)):=⟨_,rfl⟩
 have n1:=gP (v1.map (inv (v1.getD 0 0)* ·))
 have n2:=gP (r1.map (inv (v1.getD 0 0)* ·))
 rw[x_]at n1 n2
 rw[←hl]at n1
 rw[←hO]at n2
 have hP:=gP (fH l G)
 have hP2:=SN l G
 obtain⟨res,s1,s2,s3⟩:=UG J (O:=O) (P:=aW (fH l G)) (k:=k) a_ a_ a_
 refine⟨res,?_,?_⟩
 ·unfold oJ.f
  simp only
  rw[l1,aJ]
  simp only
  rw[iQ,k2,I_ hz,←hl,←hO,aJ]
  simp only[ν,U_]
  rw[SM a_ a_,aJ,s1];rfl
 rcases s2 with rfl|⟨w,hw',rfl⟩
 ·refine .inl ⟨rfl,fun W hW=>?_⟩
  have hf:=hW.fits
  obtain⟨he1,he2⟩:=hend W hW
  have hvl:=k3 _ _ _ (RS W hW) a_
  have hG:G≠ []:=fun e0=>by
   have:=g2 0
   rw[S8,e0]at this
   exact tX this.symm
  have hP3:=Te (p:=l) hG
  have:=UJ qA (Sk J.N60) (P:=aW (fH l G)) (O:=O) (l:=l) J.r J.nd J.lt hW (fun j hj=>TX hj _) g2 (fun i hi=>by rw[hl,fG,mX,he1 i hi,mul_zero]) (by rw[hl,jR,pV,mul_comm,gN hz]) a_ (fun t=>by rw[fG,rP]) a_ fun j hj=>by
   rw[Tg,TJ,←TK t2 l j hj,hl,Tg,Tf,←hw.t1 j a_,hO,jR,pV]
  exact absurd (L_ Prod.snd (s3 W hW this.1 this.2)) j_
 exact .inr ⟨w,hw',rfl⟩
end
end Go.Proofs.YtmhkpafkadijgaaGreatDoor.Gw
