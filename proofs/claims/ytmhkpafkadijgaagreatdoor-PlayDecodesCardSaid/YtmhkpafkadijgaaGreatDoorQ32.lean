/- A part of the proof of Rows.PlayDecodesCardSaid; the conditions are that card's own. -/
import Derived.Test.YtmhkpafkadijgaaGreatDoorQ28
set_option linter.all false
namespace Go.Proofs.YtmhkpafkadijgaaGreatDoor.Gw
open Go.IntKind renaming wrap→I,i64→U
open Go GF
theorem zW(b i:Nat):Int.fdiv (b:Int) (2^i)=((b/2^i:Nat):Int):=by
 rw[ZH _ (Int.pow_nonneg f_)]
 simp
theorem DF(b:Nat):Int.tmod (b:Int) 2=((b%2:Nat):Int):=by
 rw[EO a_];omega
theorem xN{i:Nat}(h:i<1000):(IntKind.u64.wrap (i:Int)).toNat=i:=by rw[jx a_ a_];omega
theorem xx{a b:Nat}(ha:a<256)(hb:b<256):∀(d i k acc:Nat),i+d=8→d<k→acc<65536→
 im.l0 k (a:Int) (b:Int) (acc:Int) (i:Int)=some ((acc^^^dD d (a*2^i) (b/2^i):Nat):Int)
 |d,i,0,_,_,h,_=>a_
 |0,i,k+1,acc,hd,hk,hx=>by
  rw[im.l0,aQ a_,dD,Zw]
 |d+1,i,k+1,acc,hd,hk,hx=>by
  have hi:min i 8=i:=a_
  have hi2:min i 16=i:=a_
  have e1:I U ((i:Int)+1)=((i+1:Nat):Int):=bT a_
  have hle:2^i≤2^7:=FZ f_ a_
  have hp:a*2^i<65536:=by
   have:a*2^i≤255*2^7:=Φ a_ hle
   omega
  have hs:IntKind.u16.wrap (IntKind.u16.wrap (a:Int)*2^i)=((a*2^i:Nat):Int):=by
   rw[oK (x:=(a:Int)) a_ a_]
   have hc:((a*2^i:Nat):Int)=(a:Int)*2^i:=j_
   rw[←hc,oK a_ a_]
  have e2:2*(a*2^i)=a*2^(i+1):=by rw[FI,FX 2 (a*2^i),aaz]
  have e3:b/2^i/2=b/2^(i+1):=by rw[Nat.div_div_eq_div_mul,FI]
  have hg:0≤IntKind.u64.wrap (i:Int):=by rw[jx a_ a_];omega
  rw[im.l0,bh a_,aF hg,xN a_,hi,zW,DF,dD,e2,e3]
  by_cases hbit:b/2^i%2=1
  ·rw[bh a_,aF hg,M_ hbit,hi2,hs,uJ _ _ hx hp,e1,xx ha hb d (i+1) k _ a_ a_ (LH (n:=16) hx hp),FQ]
  rw[aQ a_,I_ hbit,LZ,e1,xx ha hb d (i+1) k _ a_ a_ hx]
theorem xu:∀(d k w:Nat),d≤8→d<k→w<2^(d+8)→il.l0 k (w:Int) ((d+7:Nat):Int)=some ((eW w:Nat):Int)
 |d,0,_,_,h,_=>a_
 |0,k+1,w,hd,hk,hw=>by
  have hw':w<256:=by simpa using hw
  rw[il.l0,aQ a_,lY a_ a_,uu hw']
 |d+1,k+1,w,hd,hk,hw=>by
  have e0:((d+1+7:Nat):Int)=((d+8:Nat):Int):=a_
  have e1:I U (((d+8:Nat):Int)-1)=((d+7:Nat):Int):=by rw[ca a_ a_];omega
  have e2:I U (((d+8:Nat):Int)-8)=((d:Nat):Int):=by rw[ca a_ a_];omega
  have hg:0≤IntKind.u64.wrap ((d+8:Nat):Int):=by rw[jx a_ a_];omega
  have hg2:0≤IntKind.u64.wrap ((d:Nat):Int):=by rw[jx a_ a_];omega
  have hm:min (d+8) 16=d+8:=a_
  have hm2:min d 16=d:=a_
  have hpos:=KY d
  have e8:2^(d+8)=256*2^d:=by rw[ZO];omega
  have e9:2^(d+1+8)=512*2^d:=by rw[show d+1+8=d+9 by omega,ZO];omega
  have hle:2^d≤2^7:=FZ f_ a_
  have hw16:w<65536:=a_
  have hp:285*2^d<65536:=a_
  rw[il.l0,e0,bh a_,aF hg,xN a_,hm,zW,DF,e1,e2]
  by_cases hbit:w/2^(d+8)%2=1
  ·have hge:2^(d+8)≤w:=by
    rcases Me w (2^(d+8))with h|h
    ·rw[Nat.div_eq_of_lt h]at hbit;simp at hbit
    exact h
   have hs:IntKind.u16.wrap (285*2^d)=((285*2^d:Nat):Int):=by
    have hc:((285*2^d:Nat):Int)=(285:Int)*2^d:=j_
    rw[←hc,oK a_ a_]
   have hx:w^^^285*2^d<2^(d+8):=DH hge (by rw[show d+8+1=d+1+8 by omega];exact hw) a_ (by rw[show d+8+1=d+1+8 by omega];omega)
   rw[bh a_,aF hg2,xN a_,hm2,hs,uJ _ _ hw16 hp,xu d k _ a_ a_ hx]
   unfold eW
   rw[ry]
   have:=CQ (j:=d) a_
   unfold eW at this
   rw[this,Zw]
  have hlt:w<2^(d+8):=by
   rcases Me w (2^(d+8))with h|h
   ·exact h
   exfalso
   have h1:w/2^(d+8)=1:=by
    have h2:1≤w/2^(d+8):=(Nat.le_div_iff_mul_le a_).2 a_
    have h3:w/2^(d+8)<2:=Nat.div_lt_of_lt_mul a_
    omega
   rw[h1]at hbit;exact hbit rfl
  rw[aQ a_,xu d k w a_ a_ hlt]
theorem qk{a b:GF}{k:Nat}(hk:20<k):ik.f k ((a.1:Nat):Int) ((b.1:Nat):Int)=some (((a*b).1:Nat):Int):=by
 have ha:=a.2
 have hb:=b.2
 have h1:=xx (a:=a.1) (b:=b.1) a.2 b.2 8 0 k 0 a_ a_ a_
 rw[Nat.pow_zero,EI,Nat.div_one,LZ]at h1
 have h2:=xu 8 k (dD 8 a.1 b.1) a_ a_ (yY b.1 a.2)
 unfold ik.f im.f il.f
 rw[show(0:Int)=((0:Nat):Int) from rfl,h1,aJ,show(15:Int)=((8+7:Nat):Int) from rfl,h2,xo 8 a.1 b.1 a_,uu a.2];rfl
theorem CN(p:List GF):∀(j k:Nat),j≤p.length→j<k→p.length<4611686018427387904→aW (p.take j)=aW p→fV.l0 k (bi p) ((j:Int)-1)=some (((aW p).length:Int)-1)
 |j,0,_,h,_,_=>a_
 |0,k+1,_,_,_,he=>by
  rw[fV.l0,aQ a_,←he];rfl
 |j+1,k+1,hj,hk,hb,he=>by
  have e1:((j+1:Nat):Int)-1=(j:Int):=a_
  have e2:I U ((j:Int)-1)=(j:Int)-1:=ca a_ a_
  have e3:p.take (j+1)=p.take j++[p.getD j 0]:=by
   rw[y_ hj,dG hj]
  rw[fV.l0,e1,bh a_,aF g_,cI,e2]
  rw[e3,jm]at he
  by_cases hc:p.getD j 0=0
  ·rw[M_ hc]at he
   rw[hc,cH (show(((0:GF).1:Nat):Int)=0 from rfl)]
   exact CN p j k a_ a_ hb he
  rw[I_ hc]at he
  rw[kg (fun e=>hc (GF.ext ZA)),←he]
  simp;omega
theorem CO{p:List GF}{k:Nat}(hk:p.length<k)(hb:p.length<4611686018427387904):fV.f k (bi p)=some (((aW p).length:Int)-1):=by
 unfold fV.f
 rw[YO,ca a_ a_]
 exact CN p p.length k (aI _) hk hb (by rw[EU])
theorem nc{p:List GF}{k:Nat}(hk:p.length<k)(hb:p.length<4294967296):gx.f k (bi p)=some (bi (aW p)):=by
 unfold gx.f
 have hl:=gP p
 rw[CO hk a_,aJ,ca a_ a_,aF g_]
 have e:(((aW p).length:Int)-1+1).toNat=(aW p).length:=a_
 rw[e,lh,tQ,Γ,aF EN];rfl
theorem uq(p:List GF)(j:Nat):jr.f (bi p) (j:Int)=some (((p.getD j 0).1:Nat):Int):=by
 unfold jr.f
 rw[aQ a_]
 by_cases h:j<p.length
 ·rw[aQ g_,aF g_,cI]
 rw[bh g_]
 have:p.getD j 0=0:=by simp[bF,τ (by omega:p.length≤j)]
 rw[this];rfl
theorem De{p:List GF}{n k:Nat}(hn:n<1000)(hp:p.length<1000)(hk:n+p.length<k):lQ.f k (bi p) (n:Int)=some (bi (aW (List.replicate n 0++p))):=by
 unfold lQ.f
 rw[aF a_,n_,aF (by rw[P_,YO];omega),gZ,←gb,nc l_ l_];rfl
theorem C8(c:GF)(p:List GF)(hp:p.length<1000):∀(d i k:Nat),i+d=p.length→1000+d<k→
 iZ.l0 k ((c.1:Nat):Int) (bi p) (bi ((p.take i).map (c* ·))) (i:Int)=some (bi (aW (p.map (c* ·))))
 |d,i,0,_,h=>a_
 |0,i,k+1,hd,hk=>by
  rw[iZ.l0,aQ g_,D_ a_,nc l_ l_];rfl
 |d+1,i,k+1,hd,hk=>by
  have hi:i<p.length:=a_
  rw[iZ.l0,bh g_,aF g_,cI,qk a_,aJ,aF EN,bT a_]
  have e:bi ((p.take i).map (c* ·))++[(((c*p.getD i 0).1:Nat):Int)]=bi ((p.take (i+1)).map (c* ·)):=by
   rw[y_ hi,dG hi,Fg,gb];rfl
  rw[e]
  exact C8 c p hp d (i+1) k a_ a_
theorem Pq{c:GF}{p:List GF}{k:Nat}(hp:p.length<1000)(hk:2000<k):iZ.f k ((c.1:Nat):Int) (bi p)=some (bi (aW (p.map (c* ·)))):=C8 c p hp p.length 0 k a_ a_
def gR(p q:List GF):List GF:=(List.range (max p.length q.length)).map fun j=>p.getD j 0+q.getD j 0
theorem I3(f:Nat→GF)(n j:Nat):((List.range n).map f).getD j 0=if j<n then f j else 0:=by
 simp only[bF,Lr]
 by_cases h:j<n
 ·rw[M_ h,C_ sW];simp
 rw[I_ h,τ sW];rfl
theorem pH{p:List GF}{j:Nat}(h:p.length≤j):p.getD j 0=0:=by simp[bF,τ h]
theorem B6(p q:List GF)(j:Nat):(gR p q).getD j 0=p.getD j 0+q.getD j 0:=by
 rw[gR,I3]
 by_cases h:j<max p.length q.length
 ·rw[M_ h]
 rw[I_ h,pH (p:=p) a_,pH (p:=q) a_,GF.add_zero]
theorem B7(p q:List GF)(x:GF):pv (gR p q) x=pv p x+pv q x:=by
 have hp:pv (p++List.replicate (max p.length q.length-p.length) 0) x=pv p x:=by rw[fS,ic,GF.mul_zero,GF.add_zero]
 have hq:pv (q++List.replicate (max p.length q.length-q.length) 0) x=pv q x:=by rw[fS,ic,GF.mul_zero,GF.add_zero]
 rw[←hp,←hq,←xa x _ _ l_]
 congr 1
 apply Fq
 ·simp[gR];omega
 intro j h1 h2
 have hz:∀(l:List GF)(m:Nat)(h:j<(l++List.replicate m 0).length),(l++List.replicate m 0)[j]=l.getD j 0:=fun l m h=>by
  rw[List.getElem_append]
  split
  ·rename_i h';rw[dG h']
  rename_i h';rw[Ot,pH a_]
 rw[LM,hz,hz]
 simp[gR]
theorem CL(p q:List GF)(hp:p.length<1000)(hq:q.length<1000):∀(d i k:Nat),i+d=max p.length q.length→1000+d<k→
 iY.l0 k (bi p) (bi q) (bi ((gR p q).take i)) (i:Int)=some (bi (aW (gR p q)))
 |d,i,0,_,h=>a_
 |d,i,k+1,hd,hk=>by
  have hm:max2 ((bi p).length:Int) ((bi q).length:Int)=((max p.length q.length:Nat):Int):=by rw[YO,YO];unfold max2;split<;>omega
  have hl:(gR p q).length=max p.length q.length:=by simp[gR]
  cases d with
  |zero=>
   rw[iY.l0,hm,aQ a_,D_ a_,nc a_ a_];rfl
  |succ d=>
   rw[iY.l0,hm,bh a_,uq,aJ,uq,aJ,xor_val,aF EN,bT a_]
   have hi:i<(gR p q).length:=a_
   have e:bi ((gR p q).take i)++[(((p.getD i 0+q.getD i 0).1:Nat):Int)]=bi ((gR p q).take (i+1)):=by
    rw[y_ hi,←B6,dG hi,gb];rfl
   rw[e]
   exact CL p q hp hq d (i+1) k a_ a_
theorem OU{p q:List GF}{k:Nat}(hp:p.length<1000)(hq:q.length<1000)(hk:2000<k):iY.f k (bi p) (bi q)=some (bi (aW (gR p q))):=CL p q hp hq (max p.length q.length) 0 k a_ a_
theorem wE{n:Nat}{p:List GF}(h:∀j,n≤j→p.getD j 0=0):(aW p).length≤n:=by
 rcases Me n (aW p).length with hlt|hge
 ·exfalso
  rcases PG (aW p)with e|⟨q,c,e⟩
  ·rw[e]at hlt;simp at hlt
  rw[PN]at e
  have hc:c=0:=by
   have:=jR p q.length
   rw[h q.length (by rw[e]at hlt;simp at hlt;omega),e]at this
   simpa [bF] using this
  obtain⟨m,h1,_⟩:=oe _ p rfl
  have h2:aW p=aW q:=by
   conv=>lhs;rw[h1]
   rw[e,hc]
   have:∀m,aW (q++[0]++List.replicate m 0)=aW q:=fun m=>by
    induction m with
    |zero=>rw[List.replicate_zero,fQ,jm,M_ rfl]
    |succ m ih=>rw[aap,←DX,jm,M_ rfl,ih]
   exact this m
  have h3:=gP q
  rw[←h2,e]at h3
  simp at h3
  omega
 exact hge
theorem wG(p:List GF):aW (aW p)=aW p:=by
 obtain⟨m,h1,_⟩:=oe _ p rfl
 have h2:∀m,aW (aW p++List.replicate m 0)=aW (aW p):=fun m=>by
  induction m with
  |zero=>rw[List.replicate_zero,fQ]
  |succ m ih=>rw[aap,←DX,jm,M_ rfl,ih]
 rw[←h2 m,←h1]
theorem C1(p q:List GF)(i:Nat)(hi:i<p.length):∀(d j k:Nat)(L:List GF),j+d=q.length→d+30<k→i+q.length≤L.length→L.length<4294967296→
 ∃k',k=k'+d+1∧dX.l1 k (bi p) (bi q) (i:Int) (bi L) (j:Int)=dX.l0 k' (bi p) (bi q) (bi (fL (i+j) ((q.drop j).map (p.getD i 0* ·)) L)) (I U ((i:Int)+1))
 |d,j,0,L,_,h,_,_=>a_
 |0,j,k+1,L,hd,hk,hL,hb=>by
  refine⟨k,a_,?_⟩
  rw[dX.l1,aQ g_,Θ a_];rfl
 |d+1,j,k+1,L,hd,hk,hL,hb=>by
  have e1:I U ((i:Int)+(j:Int))=((i+j:Nat):Int):=by rw[ca a_ a_];omega
  have e2:I U ((j:Int)+1)=((j+1:Nat):Int):=bT a_
  obtain⟨k',h1,h2⟩:=C1 p q i hi d (j+1) k (L.set (i+j) (L.getD (i+j) 0+p.getD i 0*q.getD j 0)) a_ a_ l_ NQ
  refine⟨k',a_,?_⟩
  have hj:j<q.length:=a_
  have e3:q.drop j=q.getD j 0::q.drop (j+1):=by
   rw[δ hj,dG hj]
  rw[dX.l1,bh g_,e1,aF g_,aF g_,aF g_,cI,cI,qk a_,aJ,aF g_,e2,cI,xor_val,n_,gY,h2,e3]
  rfl
theorem C0(p q:List GF)(hq:q.length<1000):∀(d i k:Nat)(L:List GF),i+d=p.length→p.length+q.length≤L.length→L.length+100+d*(q.length+40)<k→L.length<4294967296→
 ∃L',L'.length=L.length∧(∀x,pv L' x=pv L x+pow x i*(pv (p.drop i) x*pv q x))∧dX.l0 k (bi p) (bi q) (bi L) (i:Int)=some (bi (aW L'))
 |d,i,0,L,_,_,h,_=>a_
 |0,i,k+1,L,hj,hL,hk,hb=>by
  refine⟨L,rfl,fun x=>by rw[Θ a_,pv,zero_mul,mul_zero,add_zero],?_⟩
  rw[dX.l0,aQ g_,nc a_ hb];rfl
 |d+1,i,k+1,L,hj,hL,hk,hb=>by
  have hmul:(d+1)*(q.length+40)=d*(q.length+40)+q.length+40:=O_
  have hi:i<p.length:=a_
  obtain⟨k',h1,h2⟩:=C1 p q i hi q.length 0 k L a_ a_ a_ hb
  rw[show((0:Nat):Int)=0 from rfl,Gy,Γ,bT a_]at h2
  rw[dX.l0,bh g_,h2]
  obtain⟨L',h4,h5,h6⟩:=C0 p q hq d (i+1) k' (fL i (q.map (p.getD i 0* ·)) L) a_ (by rw[j9];exact hL) (by rw[j9];omega) (by rw[j9];exact hb)
  refine⟨L',by rw[h4,j9],fun x=>?_,h6⟩
  have e3:p.drop i=p.getD i 0::p.drop (i+1):=NR
  rw[h5 x,rQ x _ _ _ l_,mX,e3,pv,add_mul,GF.mul_add,GF.add_assoc]
  congr 2
  rw[pow];ac_rfl
theorem Pj{p q:List GF}{k:Nat}(hq:q.length<1000)(hp:p.length<1000)(hk:p.length+q.length+100+p.length*(q.length+40)<k):
 ∃L,L.length=p.length+q.length∧(∀x,pv L x=pv p x*pv q x)∧dX.f k (bi p) (bi q)=some (bi (aW L)):=by
 have e1:I U (((bi p).length:Int)+((bi q).length:Int))=((p.length+q.length:Nat):Int):=by rw[YO,YO,ca a_ a_];omega
 obtain⟨L,h1,h2,h3⟩:=C0 p q hq p.length 0 k (List.replicate (p.length+q.length) 0) a_ j_ (by simpa using hk) l_
 refine⟨L,LX,fun x=>by rw[h2 x,ic,GF.zero_add,Γ,pow,GF.one_mul],?_⟩
 unfold dX.f
 rw[e1,aF a_,n_,gZ]
 exact h3
theorem Ph{n k:Nat}{g:List GF}(r:GF)(h:Mon n g)(hn:n≤253)(hk:20000<k):dX.f k (bi g) [((r.1:Nat):Int),1]=some (bi (mulL r g)):=by
 obtain⟨L,h1,h2,h3⟩:=Pj (p:=g) (q:=[r,1]) (k:=k) j_ (by rw[h.1];omega) (by rw[h.1];simp;omega)
 rw[show([((r.1:Nat):Int),1]:List Int)=bi [r,1] from rfl,h3]
 have e:L=mulL r g++[0]:=ua (by rw[h1,E_,nZ];rfl) (by rw[h1,h.1];simp;omega) fun x=>by
  rw[h2,fS,lI]
  simp only[pv,GF.mul_zero,GF.add_zero,GF.mul_one]
  exact GF.mul_comm _ _
 rw[e,jm,M_ rfl,wF (rH r h)]
theorem CY(rs:List GF)(hr:rs.length≤254):∀(d i k:Nat)(g:List GF),i+d=rs.length→Mon i g→20000+d<k→
 iq.l0 k (bi rs) (bi g) (i:Int)=some (bi ((rs.drop i).foldl (fun g r=>mulL r g) g))
 |d,i,0,_,_,_,h=>a_
 |0,i,k+1,g,hd,hm,hk=>by
  rw[iq.l0,aQ g_,Θ a_];rfl
 |d+1,i,k+1,g,hd,hm,hk=>by
  have hi:i<rs.length:=a_
  rw[iq.l0,bh g_,aF g_,cI,Ph _ hm a_ a_,aJ,bT a_]
  rw[CY rs hr d (i+1) k _ a_ (rH _ hm) a_]
  have e3:rs.drop i=rs.getD i 0::rs.drop (i+1):=NR
  rw[e3];rfl
theorem Pe{rs:List GF}{k:Nat}(hr:rs.length≤254)(hk:21000<k):iq.f k (bi rs)=some (bi (gr rs)):=by
 unfold iq.f
 have:=CY rs hr rs.length 0 k [1] a_ ⟨rfl,rfl⟩ a_
 rw[show([1]:List Int)=bi [1] from rfl,show(0:Int)=((0:Nat):Int) from rfl,this,Γ];rfl
theorem xv{N K B:Nat}(h:Cd N K B):kC.f ((N:Int),(K:Int),(B:Int))=some 0:=by
 obtain⟨h1,h2,h3,h4⟩:=h
 unfold kC.f
 rw[aQ rG,aQ rG,aQ rG,aQ rG,aQ rG]
theorem C9{N K B:Nat}(h:Cd N K B):lR.f ((N:Int),(K:Int),(B:Int))=some ((N-K:Nat):Int):=by
 unfold lR.f
 obtain⟨h1,h2,h3,h4⟩:=id h
 simp only
 rw[xv h,aJ,cH rfl,ca a_ a_]
 congr 1;omega
theorem C6(a:GF)(n:Nat)(hn:n<1000):∀(d i k:Nat),i+d=n→30+d<k→eX.l0 k ((a.1:Nat):Int) (n:Int) (((pow a i).1:Nat):Int) (i:Int)=some (((pow a n).1:Nat):Int)
 |d,i,0,_,h=>a_
 |0,i,k+1,hd,hk=>by
  obtain rfl:i=n:=a_
  rw[eX.l0,aQ a_]
 |d+1,i,k+1,hd,hk=>by
  rw[eX.l0,bh a_,qk a_,aJ,bT a_]
  exact C6 a n hn d (i+1) k a_ a_
theorem Pp{n k:Nat}(hn:n<4611686018427387904)(hk:1000<k):oC.f k (n:Int)=some (((pow al n).1:Nat):Int):=by
 unfold oC.f eX.f
 by_cases h0:n=0
 ·subst h0
  rw[bh EJ];rfl
 have e1:Int.tmod (n:Int) 255=((n%255:Nat):Int):=by rw[EO a_];omega
 rw[aQ a_,aQ f_,e1,aQ a_]
 unfold eX.j0
 have:=C6 al (n%255) a_ (n%255) 0 k a_ a_
 have e2:pow al (n%255)=pow al n:=GF.ext (by rw[jW,jW];exact nP (a:=2) f_ f_ n)
 rw[e2]at this
 exact L_ (fun o:Option Int=>o.bind some) this
theorem C7{N K B:Nat}(hc:Cd N K B):∀(d i k:Nat),i+d=N-K→1000+d<k→js.l0 k ((N:Int),(K:Int),(B:Int)) (bi (eQ B i)) (i:Int)=some (bi (eQ B (N-K)))
 |d,i,0,_,h=>a_
 |d,i,k+1,hd,hk=>by
  obtain⟨c1,c2,c3,c4⟩:=id hc
  rw[js.l0]
  simp only
  rw[C9 hc,aJ]
  cases d with
  |zero=>
   obtain rfl:i=N-K:=a_
   rw[aQ a_]
  |succ d=>
   have e1:I U ((B:Int)+(i:Int))=((B+i:Nat):Int):=by rw[ca a_ a_];omega
   rw[bh a_,e1,Pp a_ a_,aJ,aF (by rw[YO,lS];simp;omega),bT a_]
   have e:bi (eQ B i)++[(((pow al (B+i)).1:Nat):Int)]=bi (eQ B (i+1)):=by rw[Da,gb];rfl
   rw[e]
   exact C7 hc d (i+1) k a_ a_
theorem Pf{N K B k:Nat}(hc:Cd N K B)(hk:21000<k):oB.f k ((N:Int),(K:Int),(B:Int))=some (bi (gr (eQ B (N-K)))):=by
 obtain⟨c1,c2,c3,c4⟩:=id hc
 unfold oB.f js.f
 simp only
 have:=C7 hc (N-K) 0 k a_ a_
 rw[show bi (eQ B 0)=[] from rfl,show((0:Nat):Int)=0 from rfl]at this
 rw[xv hc,aJ,cH rfl,this,aJ,Pe Z4 hk];rfl
theorem OX{c:GF}{k:Nat}(hk:100<k):oz.f k ((c.1:Nat):Int) 1=some ((c.1:Nat):Int):=by
 have hinv:iX.f k 1=some (1,true):=by
  obtain⟨k,rfl⟩:∃m,k=m+2:=⟨k-2,a_⟩
  unfold iX.f
  have m0:=qk (a:=1) (b:=0) (k:=k+1) a_
  have m1:=qk (a:=1) (b:=1) (k:=k) a_
  rw[GF.mul_zero]at m0
  rw[GF.mul_one]at m1
  rw[iX.l0,bh f_,show IntKind.u8.wrap 0=(((0:GF).1:Nat):Int) by decide,show(1:Int)=(((1:GF).1:Nat):Int) from rfl,m0,aJ,aQ f_,show I U ((0:Int)+(((1:GF).1:Nat):Int))=1 by decide,iX.l0,bh f_,show IntKind.u8.wrap 1=(((1:GF).1:Nat):Int) by decide,m1,aJ,bh (show(((1:GF).1:Nat):Int)=1 from rfl)]
 have m2:=qk (a:=c) (b:=1) (k:=k) a_
 rw[GF.mul_one]at m2
 unfold oz.f
 rw[hinv,aJ,show(1,true).1=(((1:GF).1:Nat):Int) from rfl,m2];rfl
theorem CP{s:Nat}{g:List GF}(hg:Mon s g)(hs:s≤254):∀(d i k:Nat)(l q:List GF),i+1=s+d→i<600→i<q.length+s→q.length<1000→aW l=l→(∀j,i+1≤j→l.getD j 0=0)→3000+d<k→
 ∃(R:List GF)(q':List Int),R.length≤s∧(∀x,pv g x=0→pv R x=pv l x)∧eC.l0 k (bi g) (s:Int) (bi l) (bi q) (i:Int)=some (q',bi R,true)
 |d,i,0,_,_,_,_,_,_,_,_,h=>a_
 |0,i,k+1,l,q,hd,hi,hq,hq2,hn,hz,hk=>by
  refine⟨l,bi (aW q),?_,fun x _=>rfl,?_⟩
  ·rw[←hn];exact wE fun j hj=>hz j a_
  rw[eC.l0,aQ a_]
  unfold eC.j0
  rw[nc a_ a_];rfl
 |d+1,i,k+1,l,q,hd,hi,hq,hq2,hn,hz,hk=>by
  have hll:l.length≤i+1:=abg
  have e2:I U ((i:Int)-(s:Int))=((i-s:Nat):Int):=by rw[ca a_ a_];omega
  have e4:I U ((i:Int)-1)=(i:Int)-1:=ca a_ a_
  rw[eC.l0,bh a_,aF (by rw[YO,hg.1];omega),uq,aJ,cI,hg.2,show(((1:GF).1:Nat):Int)=1 from rfl,OX a_,aJ,e2,aF g_,Pq aaw a_,aJ]
  generalize hc:l.getD i 0=c
  have hn1:=gP (g.map (c* ·))
  rw[x_,hg.1]at hn1
  rw[De a_ a_ a_,aJ]
  have hn2:=gP (List.replicate (i-s) 0++aW (g.map (c* ·)))
  rw[E_,P_]at hn2
  rw[OU a_ a_ a_,aJ,n_,gY,e4]
  have hget:∀j,i≤j→(aW (gR l (aW (List.replicate (i-s) 0++aW (g.map (c* ·)))))).getD j 0=0:=fun j hj=>by
   have e5:(List.replicate (i-s) 0++aW (g.map (c* ·))).getD j 0=(aW (g.map (c* ·))).getD (j-(i-s)) 0:=by
    simp only[bF]
    rw[ε l_,P_]
   rw[jR,B6,jR,e5,jR]
   rcases Nat.eq_or_lt_of_le hj with rfl|hlt
   ·rw[show i-(i-s)=s by omega]
    have hsl:s<g.length:=aaw
    have:(g.map (c* ·)).getD s 0=c*g.getD s 0:=by simp[bF,hsl]
    rw[this,hg.2,GF.mul_one,hc,GF.eE]
   rw[hz j a_,pH (by rw[x_,hg.1];omega),GF.add_zero]
  match i,hd,hi,hq,hz,e2,e4,hget,hc,hll,hn2 with
  |0,hd,hi,hq,hz,e2,e4,hget,hc,hll,hn2=>
   have hd0:d=0:=a_
   have hs0:s=0:=a_
   refine⟨aW (gR l (aW (List.replicate (0-s) 0++aW (g.map (c* ·))))),bi (aW (q.set (0-s) c)),?_,fun x hx=>?_,?_⟩
   ·rw[←wG];exact wE fun j hj=>hget j a_
   ·rw[fG,B7,fG,fS,ic,GF.zero_add,fG,mX,hx,GF.mul_zero,GF.mul_zero,GF.add_zero]
   obtain⟨k,rfl⟩:∃m,k=m+1:=⟨k-1,a_⟩
   rw[eC.l0,aQ a_]
   unfold eC.j0
   rw[nc η η];rfl
  |i+1,hd,hi,hq,hz,e2,e4,hget,hc,hll,hn2=>
   rw[show((i+1:Nat):Int)-1=(i:Int) by omega]
   obtain⟨R,q',r1,r2,r3⟩:=CP hg hs d i k (aW (gR l (aW (List.replicate (i+1-s) 0++aW (g.map (c* ·)))))) (q.set (i+1-s) c) a_ a_ η η (wG _) hget a_
   refine⟨R,q',r1,fun x hx=>?_,r3⟩
   rw[r2 x hx,fG,B7,fG,fS,ic,GF.zero_add,fG,mX,hx,GF.mul_zero,GF.mul_zero,GF.add_zero]
theorem Pg{s k:Nat}{g a:List GF}(hg:Mon s g)(hs0:0<s)(hs:s≤254)(ha:a.length<500)(hk:5000<k):
 ∃R:List GF,R.length≤s∧(∀x,pv g x=0→pv R x=pv a x)∧oA.f k (bi a) (bi g)=some (bi R,true):=by
 have hdeg:fV.f k (bi g)=some (s:Int):=by rw[CO aaw aaw,wF hg,hg.1];congr 1;omega
 have hna:=gP a
 have e1:I U (((bi a).length:Int)+1)=((a.length+1:Nat):Int):=by rw[YO,ca a_ a_];omega
 have hz:∀j,a.length+1≤j→(aW a).getD j 0=0:=fun j hj=>pH a_
 have key:∃(R:List GF)(q':List Int),R.length≤s∧(∀x,pv g x=0→pv R x=pv (aW a) x)∧eC.l0 k (bi g) (s:Int) (bi (aW a)) (bi (List.replicate (a.length+1) 0)) (a.length:Int)=some (q',bi R,true):=by
  by_cases hle:s≤a.length+1
  ·exact CP hg hs (a.length+1-s) a.length k (aW a) (List.replicate (a.length+1) 0) a_ a_ l_ l_ (wG a) hz a_
  refine⟨aW a,bi (aW (List.replicate (a.length+1) 0)),a_,fun x _=>rfl,?_⟩
  obtain⟨k,rfl⟩:∃m,k=m+1:=⟨k-1,a_⟩
  rw[eC.l0,aQ a_]
  unfold eC.j0
  rw[nc l_ l_];rfl
 obtain⟨R,q',r1,r2,r3⟩:=key
 refine⟨R,r1,fun x hx=>by rw[r2 x hx,fG],?_⟩
 unfold oA.f eC.f
 rw[hdeg,aJ,aQ a_,nc a_ a_,aJ,e1,aF a_,n_,gZ,YO,r3];rfl
theorem CS{s:Nat}{R m:List GF}{b:Bool}(hs:s<1000)(hm:m.length<1000):∀(d i k:Nat),i+d=s→d<k→
 ir.l0 k (bi m) (s:Int) (bi R,b) (bi ((List.range i).map fun j=>R.getD j 0)) (i:Int)=some (bi ((List.range s).map (fun j=>R.getD j 0)++m),0)
 |d,i,0,_,h=>a_
 |0,i,k+1,hd,hk=>by
  obtain rfl:i=s:=a_
  rw[ir.l0,aQ a_,aF (by rw[YO,YO];simp;omega),gb]
 |d+1,i,k+1,hd,hk=>by
  rw[ir.l0,bh a_]
  simp only
  rw[uq,aJ,aF EN,bT a_]
  have e:bi ((List.range i).map fun j=>R.getD j 0)++[(((R.getD i 0).1:Nat):Int)]=bi ((List.range (i+1)).map fun j=>R.getD j 0):=by
   rw[EW,Fg,gb];rfl
  rw[e]
  exact CS hs hm d (i+1) k a_ a_
theorem L9{R:List GF}{s:Nat}(h:R.length≤s):(List.range s).map (fun j=>R.getD j 0)=R++List.replicate (s-R.length) 0:=by
 apply Fq
 ·simp;omega
 intro j h1 h2
 rw[Fj,FN,List.getElem_append]
 split
 ·rename_i h';rw[dG h']
 rename_i h';rw[Ot,pH a_]
theorem O7{N K B k:Nat}{m:List GF}(h:Cd N K B)(hm:m.length=K)(hk:30000<k):∃W,Wd N K B m W∧ir.f k ((N:Int),(K:Int),(B:Int)) (bi m)=some (bi W,0):=by
 obtain⟨c1,c2,c3,c4⟩:=id h
 have hgm:=I0 (eQ B (N-K))
 rw[lS]at hgm
 have hna:=gP (List.replicate (N-K) 0++m)
 rw[E_,P_,hm]at hna
 obtain⟨R,r1,r2,r3⟩:=Pg (k:=k) (a:=aW (List.replicate (N-K) 0++m)) hgm a_ a_ a_ a_
 have hl:=CS (s:=N-K) (R:=R) (m:=m) (b:=true) a_ a_ (N-K) 0 k a_ a_
 rw[L9 r1]at hl
 refine⟨R++List.replicate (N-K-R.length) 0++m,⟨?_,?_,?_⟩,?_⟩
 ·simp[hm];omega
 ·exact List.drop_left' l_
 ·intro x hx
  have e1:=r2 x (I1 hx)
  rw[DX,fS,fS,ic,GF.zero_add,P_,←GF.mul_assoc,←pow_add,e1,fG,fS,ic,GF.zero_add,P_,show R.length+(N-K-R.length)=N-K by omega,GF.eE]
 unfold ir.f
 simp only
 rw[xv h,aJ,cH rfl,cH (by rw[YO,hm]),C9 h,aJ,De a_ a_ a_,aJ,Pf h a_,aJ,r3,aJ]
 exact hl
end Go.Proofs.YtmhkpafkadijgaaGreatDoor.Gw
namespace Go.Proofs.YtmhkpafkadijgaaGreatDoor.Gw
open GF
theorem tu{a:GF}(h:a≠0):inv a≠0:=fun e=>by
 have:=gN h;rw[e,mul_zero]at this;exact absurd this f_
theorem mN{a b:GF}(ha:a≠0)(hb:b≠0):a*b≠0:=fun h=>(mul_eq_zero h).elim ha hb
theorem mul_left{a b c:GF}(ha:a≠0)(h:a*b=a*c):b=c:=by
 have:=L_ (inv a* ·) h
 simp only[←mul_assoc,mul_comm (inv a) a,gN ha,one_mul]at this;exact this
theorem inv_mul{a b:GF}(ha:a≠0)(hb:b≠0):inv (a*b)=inv a*inv b:=
 mul_left (mN ha hb) (by rw[gN (mN ha hb),show a*b*(inv a*inv b)=(a*inv a)*(b*inv b) by ac_rfl,gN ha,gN hb,one_mul])
theorem inv_inv{a:GF}(h:a≠0):inv (inv a)=a:=mul_left (tu h) (by rw[gN (tu h),mul_comm,gN h])
theorem inv_one:inv 1=1:=mul_left (a:=1) f_ (by rw[gN f_,one_mul])
theorem wZ(a:GF)(m n:Nat):pow (pow a m) n=pow a (m*n):=GF.ext (by rw[jW,jW,jW,kR a.2])
def lp(x:GF):List GF→GF
 | []=>1
 |y::t=>(if y=x then 1 else x+y)*lp x t
theorem tX:(1:GF)≠0:=f_
theorem pU(x:GF):∀l,lp x l≠0
 | []=>tX
 |y::t=>by
  refine mN ?_ (pU x t)
  by_cases h:y=x
  ·rw[M_ h];decide
  rw[I_ h];exact fun e=>h (lB e).symm
theorem vZ{x y:GF}(t:List GF)(h:y≠x):lp x (y::t)=(x+y)*lp x t:=by rw[lp,I_ h]
theorem Br(x:GF)(t:List GF):lp x (x::t)=lp x t:=by rw[lp,M_ rfl,one_mul]
theorem wc(x a b:GF)(t:List GF):lp x (a::b::t)=lp x (b::a::t):=by simp only[lp];ac_rfl
def ss(full:List GF)(F:GF→GF):List GF→GF
 | []=>0
 |x::t=>F x*inv (lp x full)+ss full F t
theorem uD{f g:List GF}{F G:GF→GF}:∀(l:List GF),(∀x∈l,F x*inv (lp x f)=G x*inv (lp x g))→ss f F l=ss g G l
 | [],_=>rfl
 |a::t,h=>by rw[ss,ss,h a H_,uD t fun x hx=>h x (o_ _ hx)]
theorem xA(f:List GF)(F G:GF→GF):∀l:List GF,ss f (fun x=>F x+G x) l=ss f F l+ss f G l
 | []=>(add_zero 0).symm
 |a::t=>by rw[ss,ss,ss,xA f F G t,add_mul];ac_rfl
theorem xC(f:List GF)(c:GF)(F:GF→GF):∀l:List GF,ss f (fun x=>c*F x) l=c*ss f F l
 | []=>(mul_zero c).symm
 |a::t=>by rw[ss,ss,xC f c F t,mul_add];congr 1;ac_rfl
theorem xB{a:GF}{t:List GF}(h:a ∉ t)(G:GF→GF):ss (a::t) (fun x=>(x+a)*G x) (a::t)=ss t G t:=by
 rw[ss,eE,zero_mul,zero_mul,zero_add]
 refine uD t fun x hx=>?_
 have hne:a≠x:=fun e=>h (e▸hx)
 have h1:x+a≠0:=fun e=>hne (lB e).symm
 rw[vZ t hne,inv_mul h1 (pU x t),show(x+a)*G x*(inv (x+a)*inv (lp x t))=((x+a)*inv (x+a))*(G x*inv (lp x t)) by ac_rfl,gN h1,one_mul]
theorem Qb(F:GF→GF)(a b:GF)(t:List GF):ss (a::b::t) F (a::b::t)=ss (b::a::t) F (b::a::t):=by
 rw[ss,ss,ss,ss,uD (g:=b::a::t) (G:=F) t fun x _=>by rw[wc],wc a,wc b]
 ac_rfl
theorem xD:∀(n:Nat)(l:List GF),l.length=n→l.Nodup→ss l (fun _=>1) l=if n=1 then 1 else 0
 |0,l,h,_=>by obtain rfl:=Ψ h;rfl
 |1,l,h,_=>by
  obtain⟨a,rfl⟩:=List.length_eq_one_iff.1 h
  rw[M_ rfl,ss,Br,ss,lp,inv_one,one_mul,add_zero]
 |n+2,l,h,hn=>by
  match l,h,hn with
  |a::b::t,h,hn=>
   have h1:=wI.1 hn
   have h2:=wI.1 h1.2
   have hab:a≠b:=fun e=>h1.1 (e▸H_)
   have hat:a ∉ t:=fun e=>h1.1 (o_ _ e)
   have hs:b ∉ a::t:=fun e=>(X_.1 e).elim (fun e=>hab e.symm) h2.1
   have ha:(a::t).Nodup:=wI.2 ⟨hat,h2.2⟩
   have hl:t.length=n:=sW
   have e1:=xB h1.1 fun _=>1
   have e2:=xB hs fun _=>1
   rw[xD (n+1) (b::t) aaq h1.2]at e1
   rw[xD (n+1) (a::t) aaq ha,←Qb]at e2
   have e3:=xA (a::b::t) (fun x=>(x+a)*1) (fun x=>(x+b)*1) (a::b::t)
   rw[e1,e2,eE]at e3
   have e4:(fun x:GF=>(x+a)*1+(x+b)*1)=fun x=>(a+b)*1:=by
    funext x
    rw[mul_one,mul_one,mul_one,show x+a+(x+b)=(x+(x+(a+b))) by ac_rfl,me]
   rw[e4,xC]at e3
   rw[I_ a_]
   rcases mul_eq_zero e3 with e|e
   ·exact absurd (lB e) hab
   exact e
theorem Dr(a:GF):∀(p:List GF)(n:Nat),0<n→p.length≤n+1→(gy a p).getD (n-1) 0=p.getD n 0
 | [],n,_,_=>by simp[gy]
 | [c],n,h,_=>by
  obtain⟨m,rfl⟩:∃m,n=m+1:=⟨n-1,a_⟩
  simp[gy]
 |c::d::r,n,h,hl=>by
  obtain⟨m,rfl⟩:∃m,n=m+1:=⟨n-1,a_⟩
  rw[gy,FK,bY]
  cases m with
  |zero=>
   have:r=[]:=Ψ (by simp only[r_]at hl;omega)
   subst this
   simp only[LP,pv]
   rw[mul_zero,add_zero]
  |succ m=>
   have:=Dr a (d::r) (m+1) a_ (by simp at hl⊢;omega)
   rw[FK]at this
   rw[bY];exact this
theorem Dq:∀(l p:List GF),l.Nodup→l≠ []→p.length≤l.length→ss l (pv p) l=p.getD (l.length-1) 0
 | [],_,_,h,_=>absurd rfl h
 |a::t,p,hn,_,hl=>by
  have h1:=wI.1 hn
  have e:pv p=fun x=>pv p a*1+(x+a)*pv (gy a p) x:=by
   funext x;rw[mul_one];exact xI a x p
  rw[e,xA,xC,xB h1.1,xD _ _ rfl hn]
  cases t with
  |nil=>
   rw[show [a].length=1 from rfl,M_ rfl,ss,add_zero,mul_one]
   match p,hl with
   | [],_=>rfl
   | [c],_=>simp[pv,mul_zero,add_zero]
  |cons b t=>
   rw[I_ j_,mul_zero,zero_add,Dq (b::t) (gy a p) h1.2 j_ (by rw[xH];simp at hl⊢;omega)]
   have:=Dr a p (b::t).length j_ (by simp at hl⊢;omega)
   simpa using this
theorem AW(y:GF→GF):∀l:List GF,l.Nodup→∃p,p.length=l.length∧∀x∈l,pv p x=y x
 | [],_=>⟨[],rfl,j_⟩
 |a::t,hn=>by
  have h1:=wI.1 hn
  obtain⟨q,hq,hv⟩:=AW (fun x=>(y x+y a)*inv (x+a)) t h1.2
  refine⟨(mulL a q).set 0 ((mulL a q).getD 0 0+y a),by simp[nZ,hq],fun x hx=>?_⟩
  rw[ub x _ _ 0 (by rw[nZ];omega),me,pow,one_mul,lI]
  rcases X_.1 hx with rfl|hx
  ·rw[eE,zero_mul,zero_add]
  have hne:x+a≠0:=fun e=>h1.1 (by have:=lB e;exact this▸hx)
  rw[hv x hx,show(a+x)*((y x+y a)*inv (x+a))=((x+a)*inv (x+a))*(y x+y a) by rw[add_comm a x];ac_rfl,gN hne,one_mul,add_assoc,eE,add_zero]
theorem oh{a:GF}(h:a≠0):∀n,pow a n≠0
 |0=>tX
 |n+1=>mN (oh h n) h
theorem NB(x:GF)(j:Nat)(p:List GF):pv (List.replicate j 0++p) x=pow x j*pv p x:=by
 rw[fS,ic,zero_add,P_]
theorem Aq{p q:List GF}(j:Nat):(p++q).getD (p.length+j) 0=q.getD j 0:=by
 simp[bF,ε]
theorem Cy{p:List GF}{d:Nat}(h:∀j,d≤j→p.getD j 0=0)(x:GF):pv (p.take d) x=pv p x:=by
 conv=>rhs;rw[←Nr d p]
 have hz:∀l:List GF,(∀c∈l,c=0)→pv l x=0:=by
  intro l
  induction l with
  |nil=>intro _;rfl
  |cons c l ih=>intro hl;rw[pv,ih fun c hc=>hl c (o_ _ hc),hl c H_,mul_zero,add_zero]
 rw[fS,hz (p.drop d),mul_zero,add_zero]
 intro c hc
 obtain⟨i,hi,rfl⟩:=ES hc
 have:=h (d+i) a_
 simp at hi
 rw[List.getElem_drop]
 simpa [bF,show d+i<p.length by omega] using this
theorem L6{l:List GF}(hn:l.Nodup){K:Nat}(y:GF→GF)(h:∀j,j<l.length-K→ss l (fun x=>pow x j*y x) l=0):∃p,p.length=min K l.length∧∀x∈l,pv p x=y x:=by
 obtain⟨p,hp,hv⟩:=AW y l hn
 by_cases h0:l=[]
 ·subst h0;exact⟨[],j_,j_⟩
 have hpos:0<l.length:=Bz.2 h0
 have hz:∀m d,d+m=l.length→K≤d→∀j,d≤j→p.getD j 0=0:=by
  intro m
  induction m with
  |zero=>intro d hd _ j hj;simp[bF,τ (show p.length≤j by omega)]
  |succ m ih=>
   intro d hd hK j hj
   have ih:=ih (d+1) a_ a_
   by_cases hjd:j=d
   ·subst hjd
    have e:=h m a_
    have e2:ss l (fun x=>pow x m*y x) l=ss l (pv (List.replicate m 0++p.take (j+1))) l:=
     uD l fun x hx=>by rw[NB,Cy ih,hv x hx]
    rw[e2,Dq l _ hn h0 l_,show l.length-1=(List.replicate m (0:GF)).length+j by simp;omega,Aq]at e
    simpa [bF,Ac] using e
   exact ih j a_
 by_cases hK:K≤l.length
 ·refine⟨p.take K,by simp[hp],fun x hx=>?_⟩
  rw[Cy (hz (l.length-K) K a_ (aI _)),hv x hx]
 exact⟨p,by rw[hp];omega,hv⟩
def pad:List GF→List GF→List GF
 | [],q=>q
 |a::p,[]=>a::p
 |a::p,b::q=>(a+b)::pad p q
theorem mU(x:GF):∀p q:List GF,pv (pad p q) x=pv p x+pv q x
 | [],q=>by rw[pad,pv,zero_add]
 |a::p,[]=>by rw[pad,pv,pv,add_zero]
 |a::p,b::q=>by rw[pad,pv,mU x p q,pv,pv,mul_add];ac_rfl
theorem og:∀p q:List GF,(pad p q).length=max p.length q.length
 | [],q=>by simp[pad]
 |a::p,[]=>by simp[pad]
 |a::p,b::q=>by rw[pad,r_,og p q,r_,r_];omega
theorem qe:∀(p q:List GF)(j:Nat),(pad p q).getD j 0=p.getD j 0+q.getD j 0
 | [],q,j=>by simp[pad,zero_add]
 |a::p,[],j=>by simp[pad,add_zero]
 |a::p,b::q,0=>by simp[pad]
 |a::p,b::q,j+1=>by simp only[pad,bY];exact qe p q j
def fH:List GF→List GF→List GF
 | [],_=> []
 |c::p,q=>pad (q.map (c* ·)) (0::fH p q)
theorem rP(x:GF):∀p q:List GF,pv (fH p q) x=pv p x*pv q x
 | [],q=>by rw[fH,pv,zero_mul]
 |c::p,q=>by
  rw[fH,mU,mX,pv,rP x p q,zero_add,pv,add_mul]
  congr 1;ac_rfl
theorem tY:∀p q:List GF,q≠ []→(fH p q).length+1≤p.length+q.length
 | [],q,h=>by have:=Bz.2 h;simp[fH];omega
 |c::p,q,h=>by
  have:=tY p q h
  have:=Bz.2 h
  rw[fH,og];simp;omega
theorem Ci:∀(p q:List GF)(m n:Nat),p.length=m+1→q.length=n+1→(fH p q).getD (m+n) 0=p.getD m 0*q.getD n 0
 | [],_,_,_,h,_=>aS
 | [c],q,m,n,hp,hq=>by
  obtain rfl:m=0:=by simpa using hp.symm
  rw[fH,qe]
  rw[show(0::fH [] q).getD (0+n) 0=0 by cases n<;>simp[fH],add_zero]
  simp[bF,hq]
 |c::d::p,q,m,n,hp,hq=>by
  obtain⟨m,rfl⟩:∃k,m=k+1:=⟨m-1,by simp at hp;omega⟩
  rw[fH,qe,show m+1+n=(m+n)+1 by omega,bY,Ci (d::p) q m n (by simp at hp⊢;omega) hq,bY]
  rw[show(q.map (c* ·)).getD (m+n+1) 0=0 by simp[bF,τ (show q.length≤m+n+1 by omega)],zero_add]
theorem pY{p:List GF}(h:aW p≠ []):(aW p).getD ((aW p).length-1) 0≠0:=by
 have hr:∀(n:Nat)(p:List GF),p.length=n→aW p≠ []→(aW p).getD ((aW p).length-1) 0≠0:=by
  intro n
  induction n with
  |zero=>intro p hp h;obtain rfl:=Ψ hp;exact absurd tP h
  |succ n ih=>
   intro p hp h
   rcases PG p with rfl|⟨q,c,rfl⟩
   ·simp at hp
   rw[PN]at h hp⊢
   rw[jm]at h⊢
   by_cases hc:c=0
   ·rw[M_ hc]at h⊢;exact ih q aas h
   rw[I_ hc];simpa [bF] using hc
 exact hr _ p rfl h
theorem uX{p:List GF}(h:∀c∈p,c=0):aW p=[]:=by
 rcases Classical.em (aW p=[])with e|e
 ·exact e
 have h1:=pY e
 rw[jR]at h1
 by_cases hj:(aW p).length-1<p.length
 ·rw[bF,C_ hj]at h1
  exact absurd (h _ (T_ hj)) h1
 rw[bF,τ a_]at h1
 exact absurd rfl h1
theorem sh{p:List GF}(hp:p.length≤256)(h:∀x,pv p x=0):∀c∈p,c=0:=
 rV sA p ym (by rw[yl];exact hp) fun x _=>h x
theorem MA{p q:List GF}(hp:p.length≤256)(hq:q.length≤256)(h:∀x,pv p x=pv q x):aW p=aW q:=by
 have hz:∀c∈pad p q,c=0:=sh PU fun x=>by rw[mU,h x,eE]
 have hg:∀j,p.getD j 0=q.getD j 0:=by
  intro j
  refine lB ?_
  rw[←qe]
  by_cases hj:j<(pad p q).length
  ·rw[bF,C_ hj];exact hz _ (T_ hj)
  rw[bF,τ a_];rfl
 have hle:∀{p q:List GF},(∀j,p.getD j 0=q.getD j 0)→(aW p).length≤(aW q).length:=by
  intro p q hg
  by_cases e:aW p=[]
  ·rw[e];simp
  have h1:=pY e
  rw[jR,hg,←jR]at h1
  have hpos:=Bz.2 e
  by_cases hj:(aW p).length-1<(aW q).length
  ·omega
  rw[bF,τ a_]at h1
  exact absurd rfl h1
 have hl:=Nat.le_antisymm (hle hg) (hle fun j=>(hg j).symm)
 refine Fq hl fun j h1 h2=>?_
 have:=hg j
 rw[←jR p,←jR q]at this
 simpa [bF,h1,h2] using this
theorem N4{p q r d P:List GF}{s:Nat}(hd:d.length=s+1)(hd0:d.getD s 0≠0)(hr:r.length≤s)(hq:q.length+s≤250)(hP:P.length+s≤250)(h:∀x,pv p x=pv q x*pv d x+pv r x)(hp:∀x,pv p x=pv P x*pv d x):(∀c∈r,c=0)∧aW q=aW P:=by
 have hu:aW (pad P q)=[]:=by
  rcases Classical.em (aW (pad P q)=[])with e|e
  ·exact e
  have hpos:=Bz.2 e
  have hlen:=gP (pad P q)
  rw[og]at hlen
  obtain⟨m,hm⟩:∃m,(aW (pad P q)).length=m+1:=⟨_,(Lm hpos).symm⟩
  have h1:=pY e
  rw[hm,FK]at h1
  have h2:=Ci (aW (pad P q)) d m s hm hd
  have h3:=tY (aW (pad P q)) d (by intro e;rw[e]at hd;simp at hd)
  have hz:∀c∈pad (fH (aW (pad P q)) d) r,c=0:=by
   refine sh PU fun x=>?_
   rw[mU,rP,fG,mU,add_mul,←hp x,h x,show pv q x*pv d x+pv r x+pv q x*pv d x+pv r x=(pv q x*pv d x+pv q x*pv d x)+(pv r x+pv r x) by ac_rfl,eE,eE,add_zero]
  have h4:(pad (fH (aW (pad P q)) d) r).getD (m+s) 0=0:=by
   by_cases hj:m+s<(pad (fH (aW (pad P q)) d) r).length
   ·rw[bF,C_ hj];exact hz _ (T_ hj)
   rw[bF,τ a_];rfl
  rw[qe,h2,show r.getD (m+s) 0=0 by simp[bF,τ (show r.length≤m+s by omega)],add_zero]at h4
  exact absurd h4 (mN h1 hd0)
 have hv:∀x,pv P x=pv q x:=fun x=>by
  have:pv (aW (pad P q)) x=0:=by rw[hu];rfl
  rw[fG,mU]at this
  exact lB this
 refine⟨sh a_ fun x=>?_,MA a_ a_ fun x=>(hv x).symm⟩
 have:=(h x).symm.trans (hp x)
 rw[hv x]at this
 have h5:=L_ (pv q x*pv d x+ ·) this
 simp only[me,eE]at h5
 exact h5
theorem zZ{α:Type}(f:α→Bool):∀l:List α,(l.filter f).length+(l.filter fun x=>!f x).length=l.length
 | []=>rfl
 |a::t=>by
  have:=zZ f t
  cases h:f a<;>simp[Le,h]<;>omega
theorem QC{l P Q0 Q1:List GF}{y:GF→GF}{t K:Nat}(hn:l.Nodup)(hP:P.length≤K)(h0:Q0.length≤K+t)(h1:Q1.length≤t+1)(h255:l.length≤255)(hb:(l.filter fun x=>!decide (pv P x=y x)).length≤t)(hl:K+2*t≤l.length)(h:∀x∈l,pv Q0 x+y x*pv Q1 x=0):∀x,pv Q0 x=pv P x*pv Q1 x:=by
 by_cases hQ:Q1=[]
 ·subst hQ
  have hz:=rV l Q0 hn a_ fun x hx=>by have:=h x hx;rw[pv,mul_zero,add_zero]at this;exact this
  intro x
  rw[pv,mul_zero,←fG,uX hz,pv]
 have hlen:=tY P Q1 hQ
 have hf:=zZ (fun x=>decide (pv P x=y x)) l
 have hz:∀c∈pad Q0 (fH P Q1),c=0:=by
  refine rV (l.filter fun x=>decide (pv P x=y x)) _ (hn.filter _) PU fun x hx=>?_
  obtain⟨hx1,hx2⟩:=Lt.1 hx
  rw[mU,rP,aT hx2]
  exact h x hx1
 intro x
 have:pv (aW (pad Q0 (fH P Q1))) x=0:=by rw[uX hz];rfl
 rw[fG,mU,rP]at this
 exact lB this
def dot:List GF→List GF→GF
 |a::p,b::q=>a*b+dot p q
 |_,_=>0
theorem qQ(c:GF):∀p q:List GF,dot (p.map (c* ·)) q=c*dot p q
 | [],q=>by simp[dot,mul_zero]
 |a::p,[]=>by simp[dot,mul_zero]
 |a::p,b::q=>by simp only[ι,dot];rw[qQ c p q,mul_add];congr 1;ac_rfl
theorem za:∀p p' q:List GF,p.length=p'.length→dot (List.zipWith (·+ ·) p p') q=dot p q+dot p' q
 | [],[],q,_=>by simp[dot,add_zero]
 |a::p,b::p',[],_=>by simp[dot,add_zero]
 |a::p,b::p',c::q,h=>by simp only[Oi,dot];rw[za p p' q sW,add_mul];ac_rfl
 | [],_::_,_,h=>aS
 |_::_,[],_,h=>aS
theorem y4:∀p q p' q':List GF,p.length=q.length→dot (p++p') (q++q')=dot p q+dot p' q'
 | [],[],p',q',_=>by simp[dot,zero_add]
 |a::p,b::q,p',q',h=>by simp only[Bv,dot];rw[y4 p q p' q' sW];ac_rfl
 | [],_::_,_,_,h=>aS
 |_::_,[],_,_,h=>aS
theorem y9:∀(r:List GF)(n:Nat),dot r (List.replicate n 0)=0
 | [],n=>by cases n<;>simp[dot,FU]
 |a::r,0=>by simp[dot]
 |a::r,n+1=>by rw[FU,dot,y9 r n,mul_zero,add_zero]
theorem y8:∀(r z:List GF),(∀c<r.length,r.getD c 0=0)→dot r z=0
 | [],z,_=>by cases z<;>simp[dot]
 |a::r,[],_=>by simp[dot]
 |a::r,b::z,h=>by
  have h0:a=0:=by simpa using h 0 j_
  rw[dot,h0,zero_mul,zero_add]
  exact y8 r z fun c hc=>by simpa using h (c+1) l_
theorem y7:∀(r z:List GF)(c:Nat),r.length=z.length→(∀i<r.length,r.getD i 0=if i=c then 1 else 0)→dot r z=z.getD c 0
 | [],[],c,_,_=>by simp[dot]
 |a::r,b::z,0,hl,h=>by
  have h0:a=1:=by simpa using h 0 j_
  rw[dot,h0,one_mul,y8 r z fun i hi=>by simpa using h (i+1) l_]
  simp[add_zero]
 |a::r,b::z,c+1,hl,h=>by
  have h0:a=0:=by simpa using h 0 j_
  rw[dot,h0,zero_mul,zero_add,y7 r z c (by simpa using hl) fun i hi=>by simpa using h (i+1) l_]
  simp
 | [],_::_,_,h,_=>aS
 |_::_,[],_,h,_=>aS
theorem u6:∀(r x:List GF)(k:Nat)(v:GF),k<x.length→k<r.length→dot r (x.set k v)=dot r x+r.getD k 0*(x.getD k 0+v)
 | [],_,_,_,_,h=>aS
 |_::_,[],_,_,h,_=>aS
 |a::r,b::x,0,v,_,_=>by
  simp only[FM,dot,LP]
  rw[mul_add,show a*b+dot r x+(a*b+a*v)=(a*b+(a*b+a*v))+dot r x by ac_rfl,me]
 |a::r,b::x,k+1,v,h,h'=>by
  simp only[ZF,dot,bY]
  rw[u6 r x k v sW (by simpa using h')];ac_rfl
theorem y5(x:GF):∀(p:List GF)(s:Nat),dot ((List.range' s p.length).map (pow x)) p=pow x s*pv p x
 | [],s=>by simp[dot,pv,mul_zero]
 |c::p,s=>by
  rw[r_,LU,ι,dot,y5 x p (s+1),pv,mul_add,pow]
  congr 1;ac_rfl
abbrev bE(m:List (List GF))(i:Nat):List GF:=m.getD i []
def iz(R:Nat)(m:List (List GF))(z:List GF):Prop:=∀i<R,dot (bE m i) z=0
theorem lT(m:List (List GF))(i a:Nat)(r:List GF)(hi:i<m.length):bE (m.set i r) a=if a=i then r else bE m a:=by
 unfold bE
 by_cases h:a=i
 ·subst h;simp[bF,hi]
 simp[bF,Lp,h,show ¬i=a from fun e=>h e.symm]
def jG(n col:Nat)(rn:List GF)(i:Nat)(r:List GF):List GF:=if i=n then r else List.zipWith (·+ ·) r (rn.map (r.getD col 0* ·))
structure gE (R C:Nat) (m:List (List GF)) (L:List Nat) (j:Nat):Prop where
 len:m.length=R
 row:∀i<R,(bE m i).length=C
 few:L.length≤R
 lt:∀a<L.length,L.getD a 0<j
 one:∀a<L.length,∀i<R,(bE m i).getD (L.getD a 0) 0=if i=a then 1 else 0
 gQ:∀i<R,L.length≤i→∀c<j,(bE m i).getD c 0=0
 nd:∀a<L.length,∀b<L.length,L.getD a 0=L.getD b 0→a=b
theorem O4{R C j:Nat}{m:List (List GF)}{L:List Nat}(h:gE R C m L j)(h0:∀i<R,L.length≤i→(bE m i).getD j 0=0):gE R C m L (j+1) where
 len:=h.len
 row:=h.row
 few:=h.few
 lt a ha:=Nat.lt_succ_of_lt (h.lt a ha)
 one:=h.one
 gQ i hi hl c hc:=by
  by_cases e:c=j
  ·rw[e];exact h0 i hi hl
  exact h.gQ i hi hl c a_
 nd:=h.nd
theorem Ef(p q:List GF)(hl:p.length=q.length)(c:Nat):(List.zipWith (·+ ·) p q).getD c 0=p.getD c 0+q.getD c 0:=by
 simp only[bF,List.getElem?_zipWith]
 by_cases h:c<p.length
 ·simp[h,hl▸h]
 simp[τ (show p.length≤c by omega),τ (show q.length≤c by omega),add_zero]
theorem pV(a:GF)(p:List GF)(c:Nat):(p.map (a* ·)).getD c 0=a*p.getD c 0:=by
 simp only[bF,Lr]
 cases p[c]? with
 |none=>simp[mul_zero]
 |some v=>simp
theorem Ir{n col i:Nat}{rn r:List GF}(hl:r.length=rn.length)(c:Nat):(jG n col rn i r).getD c 0=if i=n then r.getD c 0 else r.getD c 0+r.getD col 0*rn.getD c 0:=by
 unfold jG
 split
 ·rfl
 rw[Ef _ _ aaq,pV]
theorem O3{R C j i:Nat}{m m':List (List GF)}{L:List Nat}(h:gE R C m L j)(hj:j<C)(hi:i<R)(hn:L.length≤i)(ha:(bE m i).getD j 0≠0)(hm:m'.length=R)(hrow:∀a<R,bE m' a=let r1:=if a=L.length then(bE m i).map (inv ((bE m i).getD j 0)* ·)else if a=i then bE m L.length else bE m a
 jG L.length j ((bE m i).map (inv ((bE m i).getD j 0)* ·)) a r1):
 gE R C m' (L++[j]) (j+1)∧∀z,iz R m' z↔iz R m z:=by
 let rn:=(bE m i).map (inv ((bE m i).getD j 0)* ·)
 let r1:Nat→List GF:=fun a=>if a=L.length then rn else if a=i then bE m L.length else bE m a
 have hnR:L.length<R:=a_
 have hrnl:rn.length=C:=by simp only[rn,x_];exact h.row i hi
 have hr1l:∀a<R,(r1 a).length=C:=fun a haR=>by
  simp only[r1];split
  ·exact hrnl
  split
  ·exact h.row _ hnR
  exact h.row _ haR
 have hrow:∀a<R,bE m' a=jG L.length j rn a (r1 a):=hrow
 have hrnj:rn.getD j 0=1:=by rw[pV,mul_comm,gN ha]
 have hget:∀a<R,∀c,(bE m' a).getD c 0=if a=L.length then rn.getD c 0 else(r1 a).getD c 0+(r1 a).getD j 0*rn.getD c 0:=fun a haR c=>by
  rw[hrow a haR,Ir (by rw[hr1l a haR,hrnl])]
  by_cases e:a=L.length
  ·rw[M_ e,M_ e];simp only[r1,M_ e]
  rw[I_ e,I_ e]
 have hrn0:∀b<L.length,rn.getD (L.getD b 0) 0=0:=fun b hb=>by
  rw[pV,h.one b hb i hi,I_ a_,mul_zero]
 have hrnlt:∀c<j,rn.getD c 0=0:=fun c hc=>by rw[pV,h.gQ i hi hn c hc,mul_zero]
 refine⟨⟨hm,fun a haR=>?_,l_,fun a haL=>?_,fun b hb a haR=>?_,fun a haR hal c hc=>?_,fun a haL b hbL e=>?_⟩,fun z=>?_⟩
 ·rw[hrow a haR];unfold jG;split
  ·exact hr1l a haR
  simp[hr1l a haR,hrnl]
 ·simp at haL
  by_cases e:a<L.length
  ·have:=h.lt a e
   rw[show(L++[j]).getD a 0=L.getD a 0 by simp[bF,ξ e]];omega
  rw[show(L++[j]).getD a 0=j by simp[bF,show a=L.length by omega]];omega
 ·simp at hb
  rw[hget a haR]
  by_cases e:b<L.length
  ·rw[show(L++[j]).getD b 0=L.getD b 0 by simp[bF,ξ e],hrn0 b e,mul_zero,add_zero]
   by_cases e2:a=L.length
   ·rw[M_ e2,I_ a_]
   rw[I_ e2];simp only[r1,I_ e2]
   by_cases e3:a=i
   ·rw[M_ e3,h.one b e _ hnR,I_ a_,I_ a_]
   rw[I_ e3,h.one b e a haR]
  rw[show(L++[j]).getD b 0=j by simp[bF,show b=L.length by omega],hrnj,mul_one,eE]
  by_cases e2:a=L.length
  ·rw[M_ e2,M_ a_]
  rw[I_ e2,I_ a_]
 ·simp at hal
  rw[hget a haR,I_ a_]
  by_cases e:c=j
  ·rw[e,hrnj,mul_one,eE]
  rw[hrnlt c a_,mul_zero,add_zero]
  simp only[r1,I_ (show ¬a=L.length by omega)]
  by_cases e3:a=i
  ·rw[M_ e3];exact h.gQ _ hnR (aI _) c a_
  rw[I_ e3];exact h.gQ a haR a_ c a_
 ·simp at haL hbL
  have hg:∀a,a<L.length→(L++[j]).getD a 0=L.getD a 0:=fun a e=>by simp[bF,ξ e]
  have hj':(L++[j]).getD L.length 0=j:=by simp[bF]
  by_cases e1:a<L.length<;>by_cases e2:b<L.length
  ·rw[hg a e1,hg b e2]at e;exact h.nd a e1 b e2 e
  ·rw[hg a e1,show b=L.length by omega,hj']at e;have:=h.lt a e1;omega
  ·rw[hg b e2,show a=L.length by omega,hj']at e;have:=h.lt b e2;omega
  omega
 have hd:∀a<R,dot (bE m' a) z=if a=L.length then inv ((bE m i).getD j 0)*dot (bE m i) z else dot (r1 a) z+(r1 a).getD j 0*(inv ((bE m i).getD j 0)*dot (bE m i) z):=fun a haR=>by
  rw[hrow a haR];unfold jG
  by_cases e:a=L.length
  ·rw[M_ e,M_ e];simp only[r1,M_ e];rw[qQ]
  rw[I_ e,I_ e,za _ _ _ (by simp[hr1l a haR,hrnl]),qQ,qQ]
 constructor
 ·intro hs
  have h1:=hs _ hnR
  rw[hd _ hnR,M_ rfl]at h1
  have h2:dot (bE m i) z=0:=(mul_eq_zero h1).resolve_left (tu ha)
  intro a haR
  by_cases e:a=i
  ·rw[e];exact h2
  by_cases e2:a=L.length
  ·
   have h3:=hs i hi
   rw[hd i hi,h2,mul_zero,mul_zero,add_zero,I_ (fun x=>e a_)]at h3
   simp only[r1,I_ (show ¬i=L.length from fun x=>e a_),Nw]at h3
   rw[e2];exact h3
  have h3:=hs a haR
  rw[hd a haR,h2,mul_zero,mul_zero,add_zero,I_ e2]at h3
  simp only[r1,I_ e2,I_ e]at h3
  exact h3
 intro hs a haR
 rw[hd a haR,hs i hi,mul_zero,mul_zero,add_zero]
 split
 ·rfl
 rename_i e2
 simp only[r1,I_ e2]
 split
 ·exact hs _ hnR
 exact hs a haR
def nv(m:List (List GF))(L:List Nat)(C j:Nat):Nat→List GF
 |0=>(List.replicate C 0).set j 1
 |i+1=>(nv m L C j i).set (L.getD i 0) ((bE m i).getD j 0)
theorem rI(m:List (List GF))(L:List Nat)(C j:Nat):∀i,(nv m L C j i).length=C
 |0=>by simp[nv]
 |i+1=>by simp[nv,rI m L C j i]
theorem BP{R C j:Nat}{m:List (List GF)}{L:List Nat}(h:gE R C m L C):∀i≤L.length,∀b,i≤b→b<L.length→(∀a<L.length,L.getD a 0≠j)→(nv m L C j i).getD (L.getD b 0) 0=0
 |0,_,b,_,hb,hj=>by
  rw[nv]
  have:¬j=L.getD b 0:=fun e=>hj b hb e.symm
  simp[bF,Lp]at this⊢
  simp[this,Fp]
  split<;>rfl
 |i+1,hi,b,hib,hb,hj=>by
  rw[nv]
  have hne:¬L.getD i 0=L.getD b 0:=fun e=>by have:=h.nd i a_ b hb e;omega
  have ih:=BP h i a_ b a_ hb hj
  rw[bF,Lp,I_ hne,←bF];exact ih
theorem BR{R C j:Nat}{m:List (List GF)}{L:List Nat}(h:gE R C m L C)(hjC:j<C)(hj:∀a<L.length,L.getD a 0≠j):∀i≤L.length,∀a<R,dot (bE m a) (nv m L C j i)=if a<i then 0 else if a<L.length then(bE m a).getD j 0 else 0
 |0,_,a,haR=>by
  rw[nv,u6 _ _ _ _ (by simp;exact hjC) (by rw[h.row a haR];exact hjC),y9,zero_add,I_ (ET _)]
  rw[show(List.replicate C (0:GF)).getD j 0=0 by simp[bF,Fp,hjC],zero_add,mul_one]
  split
  ·rfl
  exact h.gQ a haR a_ j hjC
 |i+1,hi,a,haR=>by
  have hlt:=h.lt i a_
  rw[nv,u6 _ _ _ _ (by rw[rI];exact hlt) (by rw[h.row a haR];exact hlt),BR h hjC hj i a_ a haR,BP h i a_ i (aI _) a_ hj,zero_add,h.one i a_ a haR]
  by_cases e1:a<i
  ·rw[M_ e1,I_ a_,zero_mul,add_zero,M_ a_]
  rw[I_ e1]
  by_cases e2:a=i
  ·rw[M_ e2,M_ a_,one_mul,M_ a_,e2,eE]
  rw[I_ e2,zero_mul,add_zero,I_ (show ¬a<i+1 by omega)]
theorem ME{R C j:Nat}{m:List (List GF)}{L:List Nat}(h:gE R C m L C)(hjC:j<C)(hj:∀a<L.length,L.getD a 0≠j):iz R m (nv m L C j L.length):=fun a haR=>by
 rw[BR h hjC hj _ (aI _) a haR]
 split<;>rfl
theorem BQ{R C j:Nat}{m:List (List GF)}{L:List Nat}(hjC:j<C)(hj:∀a<L.length,L.getD a 0≠j):∀i≤L.length,(nv m L C j i).getD j 0=1
 |0,_=>by rw[nv];simp[bF,hjC]
 |i+1,hi=>by
  rw[nv,bF,Lp,I_ (hj i a_),←bF]
  exact BQ (R:=R) hjC hj i a_
theorem IT{R C:Nat}{m:List (List GF)}{L:List Nat}{z:List GF}(h:gE R C m L C)(hz:z.length=C)(hs:iz R m z)(c:Nat)(hc:c<C)(h0:z.getD c 0≠0):∃j<C,∀a<L.length,L.getD a 0≠j:=by
 refine xq fun hn=>?_
 have hall:∀j<C,∃a,a<L.length∧L.getD a 0=j:=fun j hj=>xq fun hx=>hn ⟨j,hj,fun a ha e=>hx ⟨a,ha,e⟩⟩
 obtain⟨a,ha,ea⟩:=hall c hc
 have haR:a<R:=by have:=h.few;omega
 have hd:=y7 (bE m a) z c (by rw[h.row a haR,hz]) fun i hi=>by
  rw[h.row a haR]at hi
  obtain⟨b,hb,eb⟩:=hall i hi
  rw[←eb,h.one b hb a haR,←ea]
  by_cases e:a=b
  ·rw[M_ e,M_ (by rw[e])]
  rw[I_ e,I_ fun x=>e (h.nd _ hb _ ha x).symm]
 rw[hs a haR]at hd
 exact h0 hd.symm
mutual
def dE:List GF→List GF
 | []=> []
 |c::p=>c::kM p
def kM:List GF→List GF
 | []=> []
 |_::p=>0::dE p
end
mutual
def pe(x:GF):List GF→GF
 | []=>0
 |c::p=>c+x*x*po x p
def po(x:GF):List GF→GF
 | []=>0
 |_::p=>pe x p
end
theorem Ca(x:GF):∀p:List GF,pv p x=pe x p+x*po x p
 | []=>by simp[pv,pe,po,mul_zero,add_zero]
 |c::p=>by
  rw[pv,Ca x p,pe,po,mul_add,←mul_assoc];ac_rfl
theorem ze(x:GF):∀p:List GF,pv (dE p) x=pe x p∧pv (kM p) x=x*po x p
 | []=>by simp[dE,kM,pv,pe,po,mul_zero]
 |c::p=>by
  obtain⟨h1,h2⟩:=ze x p
  rw[dE,kM,pv,pv,h1,h2,pe,po]
  exact⟨by rw[mul_assoc],by rw[zero_add]⟩
theorem GB(x:GF)(p:List GF):pv (dE p.tail) x=po x p:=by
 cases p with
 |nil=>rfl
 |cons c p=>rw[List.tail_cons,(ze x p).1,po]
theorem sJ:∀p:List GF,(dE p).length=p.length∧(kM p).length=p.length
 | []=>⟨rfl,rfl⟩
 |c::p=>by
  obtain⟨h1,h2⟩:=sJ p
  rw[dE,kM];simp[h1,h2]
theorem zd:∀(p:List GF)(j:Nat),(dE p).getD j 0=(if j%2=1 then 0 else p.getD j 0)∧(kM p).getD j 0=(if j%2=1 then p.getD j 0 else 0)
 | [],j=>by simp[dE,kM]
 |c::p,0=>by simp[dE,kM]
 |c::p,j+1=>by
  obtain⟨h1,h2⟩:=zd p j
  rw[dE,kM,bY,bY,bY,h1,h2]
  rcases Gp j with h|h
  ·rw[I_ a_,M_ a_,I_ a_,M_ a_];exact⟨rfl,rfl⟩
  rw[M_ a_,I_ a_,M_ a_,I_ a_];exact⟨rfl,rfl⟩
theorem Cc(x:GF):∀p q:List GF,pe x (pad p q)=pe x p+pe x q∧po x (pad p q)=po x p+po x q
 | [],q=>by simp[pad,pe,po,zero_add]
 |a::p,[]=>by simp[pad,pe,po,add_zero]
 |a::p,b::q=>by
  obtain⟨h1,h2⟩:=Cc x p q
  simp only[pad,pe,po]
  rw[h1,h2,mul_add];exact⟨by ac_rfl,rfl⟩
theorem Cb(c x:GF):∀p:List GF,pe x (p.map (c* ·))=c*pe x p∧po x (p.map (c* ·))=c*po x p
 | []=>by simp[pe,po,mul_zero]
 |a::p=>by
  obtain⟨h1,h2⟩:=Cb c x p
  simp only[ι,pe,po]
  rw[h1,h2,mul_add];exact⟨by congr 1;ac_rfl,rfl⟩
theorem vJ{p q:List GF}(hl:p.length=q.length)(h:∀j,p.getD j 0=q.getD j 0):p=q:=
 Fq hl fun j h1 h2=>by
  have:=h j
  simpa [bF,h1,h2] using this
theorem Mn(r:GF)(g:List GF):mulL r g=pad (g.map (r* ·)) (0::g):=by
 refine vJ (by rw[nZ,og];simp) fun j=>?_
 rw[mulL,sy _ _ _ _ j_,qe,add_comm]
 congr 1
 by_cases h:j<(g.map (r* ·)).length
 ·rw[M_ ⟨jc _,a_⟩,aaK]
 rw[I_ a_,bF,τ a_];rfl
theorem Cl(r x:GF)(g:List GF):po x (mulL r g)=pv g x+(r+x)*po x g:=by
 rw[Mn,(Cc x _ _).2,(Cb r x g).2,po,Ca x g,add_mul]
 rw[show pe x g+x*po x g+(r*po x g+x*po x g)=(x*po x g+(x*po x g+(r*po x g+pe x g))) by ac_rfl,me]
theorem Ck(x:GF):∀(t g:List GF),x ∉ t→pv g x=0→po x (t.foldl (fun g r=>mulL r g) g)=po x g*lp x t
 | [],g,_,_=>by rw[List.foldl_nil,lp,mul_one]
 |r::t,g,h,h0=>by
  have hne:r≠x:=fun e=>h (e▸H_)
  rw[P6,Ck x t _ (fun e=>h (o_ _ e)) (by rw[lI,h0,mul_zero]),Cl,h0,zero_add,vZ t hne,add_comm r x];ac_rfl
theorem Cj(x:GF):∀(t g:List GF),t.Nodup→x∈t→po x (t.foldl (fun g r=>mulL r g) g)=pv g x*lp x t
 | [],_,_,h=>aS
 |r::t,g,hn,h=>by
  have h1:=wI.1 hn
  rw[P6]
  by_cases e:r=x
  ·subst e
   rw[Ck r t _ h1.1 (by rw[lI,eE,zero_mul]),Cl,eE,zero_mul,add_zero,Br]
  have hx:x∈t:=(X_.1 h).resolve_left fun e'=>e e'.symm
  rw[Cj x t _ h1.2 hx,lI,vZ t e,add_comm r x];ac_rfl
theorem PE{l:List GF}(hn:l.Nodup){x:GF}(hx:x∈l):pv (dE (gr l).tail) x=lp x l:=by
 rw[GB]
 show po x (l.foldl (fun g r=>mulL r g) [1])=_
 rw[Cj x l [1] hn hx]
 simp only[pv];rw[mul_zero,add_zero,one_mul]
def bl(a:GF)(N:Nat):List GF:=(List.range N).map (pow a)
theorem dI(a:GF)(N:Nat):(bl a N).length=N:=by simp[bl]
theorem tZ(a:GF){N i:Nat}(h:i<N):(bl a N).getD i 0=pow a i:=by simp[bl,bF,h]
theorem Dp(a β:GF)(full:List GF)(F:GF→GF):∀(W:List GF)(s:Nat),(∀i<W.length,F (pow a (s+i))*inv (lp (pow a (s+i)) full)=pow β (s+i)*W.getD i 0)→
 ss full F ((List.range' s W.length).map (pow a))=pow β s*pv W β
 | [],s,_=>by simp[ss,pv,mul_zero]
 |c::W,s,h=>by
  rw[r_,LU,ι,ss,Dp a β full F W (s+1) fun i hi=>?_]
  ·have h0:=h 0 j_
   rw[Gy]at h0
   rw[h0,LP,pv,mul_add,pow];congr 1;ac_rfl
  have:=h (i+1) l_
  rw[show s+(i+1)=s+1+i by omega,bY]at this;exact this
def wv(a:GF)(N B i:Nat):GF:=inv (pow (pow a i) B*lp (pow a i) (bl a N))
theorem D3{a:GF}(ha:a≠0)(N B i:Nat):wv a N B i≠0:=tu (mN (oh (oh ha i) B) (pU _ _))
theorem QK{a:GF}(ha:a≠0)(N B i:Nat):inv (wv a N B i)=pow (pow a i) B*lp (pow a i) (bl a N):=inv_inv (mN (oh (oh ha i) B) (pU _ _))
theorem AR{l:List GF}(hn:l.Nodup)(u:Nat→GF):∃y:GF→GF,∀i<l.length,y (l.getD i 0)=u i:=by
 refine⟨fun x=>u (l.findIdx fun z=>decide (z=x)),fun i hi=>?_⟩
 have hg:l.getD i 0=l[i]:=aaj
 rw[hg]
 refine L_ u ((List.findIdx_eq (p:=fun z=>decide (z=l[i])) hi).2 ⟨W_ rfl,fun j hj=>?_⟩)
 have:=Ω.1 (Cf.1 hn) j i a_ hi hj
 exact θ this
theorem QG{a:GF}(ha:a≠0){W:List GF}{N K B:Nat}(hW:W.length=N)(hK:K≤N)(hn:(bl a N).Nodup)(hr:∀j,j<N-K→pv W (pow a (B+j))=0):
 ∃P,P.length=K∧∀i<N,pv P (pow a i)=W.getD i 0*inv (wv a N B i):=by
 obtain⟨y,hy⟩:=AR hn fun i=>W.getD i 0*inv (wv a N B i)
 have hy:∀i<N,y (pow a i)=W.getD i 0*inv (wv a N B i):=fun i hi=>by
  have:=hy i (by rw[dI];exact hi)
  rw[tZ a hi]at this;exact this
 obtain⟨P,hP,hv⟩:=L6 hn (K:=K) y fun j hj=>by
  rw[dI]at hj
  have h:=Dp a (pow a (B+j)) (bl a N) (fun x=>pow x j*y x) W 0 fun i hi=>by
   rw[FW]
   show pow (pow a i) j*y (pow a i)*inv (lp (pow a i) (bl a N))=_
   rw[hy i a_,QK ha,wZ,wZ,wZ,show(B+j)*i=i*j+i*B by rw[V_,FX B,FX j];omega,pow_add]
   rw[show pow a (i*j)*(W.getD i 0*(pow a (i*B)*lp (pow a i) (bl a N)))*inv (lp (pow a i) (bl a N))=pow a (i*j)*pow a (i*B)*W.getD i 0*(lp (pow a i) (bl a N)*inv (lp (pow a i) (bl a N))) by ac_rfl,gN (pU _ _),mul_one]
  rw[hr j hj,mul_zero,hW,←PY]at h
  exact h
 refine⟨P,by rw[hP,dI];omega,fun i hi=>?_⟩
 rw[hv _ (uV.2 ⟨i,φ.2 hi,rfl⟩),hy i hi]
theorem Qr{a:GF}(ha:a≠0){W P:List GF}{N B:Nat}(hv:∀i<N,pv P (pow a i)=W.getD i 0*inv (wv a N B i)):∀i<N,wv a N B i*pv P (pow a i)=W.getD i 0:=fun i hi=>by
 rw[hv i hi,show wv a N B i*(W.getD i 0*inv (wv a N B i))=W.getD i 0*(wv a N B i*inv (wv a N B i)) by ac_rfl,gN (D3 ha _ _ _),mul_one]
def iV(x:GF)(n:Nat):List GF:=(List.range n).map (pow x)
theorem lM(x:GF)(n:Nat):(iV x n).length=n:=by simp[iV]
theorem y6(x:GF)(p:List GF):dot (iV x p.length) p=pv p x:=by
 unfold iV
 rw[PY,y5 x p 0,pow,one_mul]
def nf(K t:Nat)(x y:GF):List GF:=iV x (K+t)++(iV x (t+1)).map (y* ·)
theorem Pm(K t:Nat)(x y:GF):(nf K t x y).length=K+t+(t+1):=by simp[nf,lM]
theorem Pk{K t:Nat}(x y:GF){z0 z1:List GF}(h0:z0.length=K+t)(h1:z1.length=t+1):dot (nf K t x y) (z0++z1)=pv z0 x+y*pv z1 x:=by
 rw[nf,y4 _ _ _ _ (by rw[lM,h0]),qQ,←h0,←h1,y6,y6]
theorem Ai:∀(rs g:List GF)(m:Nat),g.length=m+1→g.getD m 0=1→(rs.foldl (fun g r=>mulL r g) g).length=m+rs.length+1∧(rs.foldl (fun g r=>mulL r g) g).getD (m+rs.length) 0=1
 | [],g,m,h,h1=>⟨sW,LX⟩
 |r::rs,g,m,h,h1=>by
  have e:(mulL r g).getD (m+1) 0=1:=by
   have:=BA r g
   rw[h,bY,h1]at this;exact this
  obtain⟨a,b⟩:=Ai rs (mulL r g) (m+1) (by rw[nZ,h]) e
  rw[P6]
  exact⟨by rw[a];simp;omega,by rw[←b];congr 1;simp;omega⟩
theorem Ap(rs:List GF):(gr rs).length=rs.length+1∧(gr rs).getD rs.length 0=1:=by
 have:=Ai rs [1] 0 rfl rfl
 rw[FW]at this;exact this
theorem Ah(x:GF):∀(rs g:List GF),pv g x=0∨x∈rs→pv (rs.foldl (fun g r=>mulL r g) g) x=0
 | [],g,h=>h.elim id fun h=>absurd h j_
 |r::rs,g,h=>by
  rw[P6]
  refine Ah x rs (mulL r g) ?_
  rw[lI]
  rcases h with h|h
  ·left;rw[h,mul_zero]
  rcases X_.1 h with rfl|h
  ·left;rw[eE,zero_mul]
  exact .inr h
theorem I2{rs:List GF}{x:GF}(h:x∈rs):pv (gr rs) x=0:=Ah x rs [1] (.inr h)
theorem Cx(p:List GF)(n:Nat)(x:GF):pv (p++List.replicate n 0) x=pv p x:=by rw[fS,ic,mul_zero,add_zero]
def iv(K t:Nat)(y:GF→GF)(l:List GF):List (List GF):=l.map fun x=>nf K t x (y x)
theorem C3{K t:Nat}{y:GF→GF}{l:List GF}{i:Nat}(h:i<l.length):bE (iv K t y l) i=nf K t (l.getD i 0) (y (l.getD i 0)):=by
 simp[bE,iv,bF,h]
theorem C4{K t:Nat}{y:GF→GF}{l z:List GF}(hz:z.length=K+t+(t+1)):iz l.length (iv K t y l) z↔∀x∈l,pv (z.take (K+t)) x+y x*pv (z.drop (K+t)) x=0:=by
 have key:∀x,dot (nf K t x (y x)) z=pv (z.take (K+t)) x+y x*pv (z.drop (K+t)) x:=fun x=>by
  conv=>lhs;rw[←Nr (K+t) z]
  exact Pk x (y x) l_ l_
 constructor
 ·intro h x hx
  obtain⟨i,hi,rfl⟩:=ES hx
  have:=h i hi
  rw[C3 hi,key]at this
  simpa [bF,hi] using this
 intro h i hi
 rw[C3 hi,key]
 exact h _ aaj
theorem PH{K t:Nat}{y:GF→GF}{l P:List GF}(hK:1≤K)(hP:P.length=K)(hb:(l.filter fun x=>!decide (pv P x=y x)).length≤t):
 ∃z:List GF,z.length=K+t+(t+1)∧iz l.length (iv K t y l) z∧∃c,c<K+t+(t+1)∧z.getD c 0≠0:=by
 let b:=l.filter fun x=>!decide (pv P x=y x)
 obtain⟨g1,g2⟩:=Ap b
 have hb:b.length≤t:=hb
 have hm:=tY P (gr b) (by intro e;rw[e]at g1;simp at g1)
 let z0:=fH P (gr b)++List.replicate (K+t-(fH P (gr b)).length) 0
 let z1:=gr b++List.replicate (t-b.length) 0
 have h0:z0.length=K+t:=by simp[z0];omega
 have h1:z1.length=t+1:=by simp[z1];omega
 refine⟨z0++z1,by simp[h0,h1],(C4 (by simp[h0,h1])).2 fun x hx=>?_,K+t+b.length,a_,?_⟩
 ·rw[←h0,abd,List.drop_left,Cx,Cx,rP]
  by_cases hxy:pv P x=y x
  ·rw[hxy,eE]
  have:x∈b:=Lt.2 ⟨hx,by simp[hxy]⟩
  rw[I2 this,mul_zero,mul_zero,add_zero]
 rw[←h0,Aq]
 have:z1.getD b.length 0=1:=by
  rw[←g2];simp[z1,bF,ξ (show b.length<(gr b).length by omega)]
 rw[this];exact tX
theorem PI{K t:Nat}{y:GF→GF}{l P z:List GF}(hn:l.Nodup)(hl:l.length≤255)(hP:P.length=K)(hb:(l.filter fun x=>!decide (pv P x=y x)).length≤t)(hlen:K+2*t≤l.length)(hz:z.length=K+t+(t+1))(hs:iz l.length (iv K t y l) z)(h0:∃c,c<z.length∧z.getD c 0≠0):(∀x,pv (z.take (K+t)) x=pv P x*pv (z.drop (K+t)) x)∧aW (z.drop (K+t))≠ []:=by
 have key:=QC hn (NF hP) (Q0:=z.take (K+t)) (Q1:=z.drop (K+t)) (t:=t) l_ l_ hl hb hlen ((C4 hz).1 hs)
 refine⟨key,fun e=>?_⟩
 have e1:∀x,pv (z.drop (K+t)) x=0:=fun x=>by rw[←fG,e];rfl
 have z1:=sh (p:=z.drop (K+t)) l_ e1
 have z0:=sh (p:=z.take (K+t)) l_ fun x=>by rw[key x,e1 x,mul_zero]
 obtain⟨c,hc,hc0⟩:=h0
 apply hc0
 by_cases h:c<K+t
 ·have:=z0 (z[c]) (List.mem_take_iff_getElem.2 ⟨c,a_,rfl⟩)
  simpa [bF,hc] using this
 have:=z1 (z[c]) (List.mem_drop_iff_getElem.2 ⟨c-(K+t),a_,by congr 1;omega⟩)
 simpa [bF,hc] using this
end Go.Proofs.YtmhkpafkadijgaaGreatDoor.Gw
