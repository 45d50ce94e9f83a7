/- A part of the proof of Rows.PlayAskedCardSaid; the conditions are that card's own. -/
import Derived.Test.YtmhkpafkadijgaaGreatDoorQ30
import Derived.Lib.TrimUEq
import Derived.Test.YtmhkpafkadijgaaGreatDoorQ26
set_option linter.all false
set_option maxRecDepth 100000
namespace Go.Proofs.YtmhkpafkadijgaaGreatDoor.Gw
open Go GF
theorem zW(b i:Nat):Int.fdiv (b:Int) (2^i)=((b/2^i:Nat):Int):=by
 rw[Int.fdiv_eq_ediv_of_nonneg _ (Int.pow_nonneg (by decide))]
 simp
theorem DF(b:Nat):Int.tmod (b:Int) 2=((b%2:Nat):Int):=by
 rw[Int.tmod_eq_emod_of_nonneg (by omega)];omega
theorem xN{i:Nat}(h:i<1000):(IntKind.u64.wrap (i:Int)).toNat=i:=by rw[jx (by omega) (by omega)];omega
theorem xx{a b:Nat}(ha:a<256)(hb:b<256):∀(d i k acc:Nat),i+d=8→d<k→acc<65536→
 im.l0 k (a:Int) (b:Int) (acc:Int) (i:Int)=some ((acc^^^dD d (a*2^i) (b/2^i):Nat):Int)
 |d,i,0,_,_,h,_=>by omega
 |0,i,k+1,acc,hd,hk,hx=>by
  rw[im.l0,aQ (by omega),dD,Nat.xor_zero]
 |d+1,i,k+1,acc,hd,hk,hx=>by
  have hi:min i 8=i:=by omega
  have hi2:min i 16=i:=by omega
  have e1:IntKind.i64.wrap ((i:Int)+1)=((i+1:Nat):Int):=bT (by omega)
  have hle:2^i≤2^7:=Nat.pow_le_pow_right (by decide) (by omega)
  have hp:a*2^i<65536:=by
   have:a*2^i≤255*2^7:=Nat.mul_le_mul (by omega) hle
   omega
  have hs:IntKind.u16.wrap (IntKind.u16.wrap (a:Int)*2^i)=((a*2^i:Nat):Int):=by
   rw[oK (x:=(a:Int)) (by omega) (by omega)]
   have hc:((a*2^i:Nat):Int)=(a:Int)*2^i:=by simp
   rw[←hc,oK (by omega) (by omega)]
  have e2:2*(a*2^i)=a*2^(i+1):=by rw[Nat.pow_succ,Nat.mul_comm 2 (a*2^i),Nat.mul_assoc]
  have e3:b/2^i/2=b/2^(i+1):=by rw[Nat.div_div_eq_div_mul,Nat.pow_succ]
  have hg:0≤IntKind.u64.wrap (i:Int):=by rw[jx (by omega) (by omega)];omega
  rw[im.l0,bh (by omega),aF hg,xN (by omega),hi,zW,DF,dD,e2,e3]
  by_cases hbit:b/2^i%2=1
  ·rw[bh (by omega),aF hg,if_pos hbit,hi2,hs,uJ _ _ hx hp,e1,xx ha hb d (i+1) k _ (by omega) (by omega) (Nat.xor_lt_two_pow (n:=16) hx hp),Nat.xor_assoc]
  ·rw[aQ (by omega),if_neg hbit,Nat.zero_xor,e1,xx ha hb d (i+1) k _ (by omega) (by omega) hx]
theorem xu:∀(d k w:Nat),d≤8→d<k→w<2^(d+8)→il.l0 k (w:Int) ((d+7:Nat):Int)=some ((eW w:Nat):Int)
 |d,0,_,_,h,_=>by omega
 |0,k+1,w,hd,hk,hw=>by
  have hw':w<256:=by simpa using hw
  rw[il.l0,aQ (by omega),lY (by omega) (by omega),uu hw']
 |d+1,k+1,w,hd,hk,hw=>by
  have e0:((d+1+7:Nat):Int)=((d+8:Nat):Int):=by omega
  have e1:IntKind.i64.wrap (((d+8:Nat):Int)-1)=((d+7:Nat):Int):=by rw[ca (by omega) (by omega)];omega
  have e2:IntKind.i64.wrap (((d+8:Nat):Int)-8)=((d:Nat):Int):=by rw[ca (by omega) (by omega)];omega
  have hg:0≤IntKind.u64.wrap ((d+8:Nat):Int):=by rw[jx (by omega) (by omega)];omega
  have hg2:0≤IntKind.u64.wrap ((d:Nat):Int):=by rw[jx (by omega) (by omega)];omega
  have hm:min (d+8) 16=d+8:=by omega
  have hm2:min d 16=d:=by omega
  have hpos:=Nat.two_pow_pos d
  have e8:2^(d+8)=256*2^d:=by rw[Nat.pow_add];omega
  have e9:2^(d+1+8)=512*2^d:=by rw[show d+1+8=d+9 by omega,Nat.pow_add];omega
  have hle:2^d≤2^7:=Nat.pow_le_pow_right (by decide) (by omega)
  have hw16:w<65536:=by omega
  have hp:285*2^d<65536:=by omega
  rw[il.l0,e0,bh (by omega),aF hg,xN (by omega),hm,zW,DF,e1,e2]
  by_cases hbit:w/2^(d+8)%2=1
  ·have hge:2^(d+8)≤w:=by
    rcases Nat.lt_or_ge w (2^(d+8))with h|h
    ·rw[Nat.div_eq_of_lt h]at hbit;simp at hbit
    ·exact h
   have hs:IntKind.u16.wrap (285*2^d)=((285*2^d:Nat):Int):=by
    have hc:((285*2^d:Nat):Int)=(285:Int)*2^d:=by simp
    rw[←hc,oK (by omega) (by omega)]
   have hx:w^^^285*2^d<2^(d+8):=DH hge (by rw[show d+8+1=d+1+8 by omega];exact hw) (by omega) (by rw[show d+8+1=d+1+8 by omega];omega)
   rw[bh (by omega),aF hg2,xN (by omega),hm2,hs,uJ _ _ hw16 hp,xu d k _ (by omega) (by omega) hx]
   unfold eW
   rw[ry]
   have:=CQ (j:=d) (by omega)
   unfold eW at this
   rw[this,Nat.xor_zero]
  ·have hlt:w<2^(d+8):=by
    rcases Nat.lt_or_ge w (2^(d+8))with h|h
    ·exact h
    ·exfalso
     have h1:w/2^(d+8)=1:=by
      have h2:1≤w/2^(d+8):=(Nat.le_div_iff_mul_le (by omega)).2 (by omega)
      have h3:w/2^(d+8)<2:=Nat.div_lt_of_lt_mul (by omega)
      omega
     rw[h1]at hbit;exact hbit rfl
   rw[aQ (by omega),xu d k w (by omega) (by omega) hlt]
theorem qk{a b:GF}{k:Nat}(hk:20<k):ik.f k ((a.1:Nat):Int) ((b.1:Nat):Int)=some (((a*b).1:Nat):Int):=by
 have ha:=a.2
 have hb:=b.2
 have h1:=xx (a:=a.1) (b:=b.1) a.2 b.2 8 0 k 0 (by omega) (by omega) (by omega)
 rw[Nat.pow_zero,Nat.mul_one,Nat.div_one,Nat.zero_xor]at h1
 have h2:=xu 8 k (dD 8 a.1 b.1) (by omega) (by omega) (yY b.1 a.2)
 unfold ik.f im.f il.f
 rw[show(0:Int)=((0:Nat):Int) from rfl,h1,aJ,show(15:Int)=((8+7:Nat):Int) from rfl,h2,xo 8 a.1 b.1 (by omega),uu a.2];rfl
theorem CN(p:List GF):∀(j k:Nat),j≤p.length→j<k→p.length<4611686018427387904→aW (p.take j)=aW p→fV.l0 k (bi p) ((j:Int)-1)=some (((aW p).length:Int)-1)
 |j,0,_,h,_,_=>by omega
 |0,k+1,_,_,_,he=>by
  rw[fV.l0,aQ (by omega),←he];rfl
 |j+1,k+1,hj,hk,hb,he=>by
  have e1:((j+1:Nat):Int)-1=(j:Int):=by omega
  have e2:IntKind.i64.wrap ((j:Int)-1)=(j:Int)-1:=ca (by omega) (by omega)
  have e3:p.take (j+1)=p.take j++[p.getD j 0]:=by
   rw[List.take_succ_eq_append_getElem hj,dG hj]
  rw[fV.l0,e1,bh (by omega),aF (by rw[bi_length];omega),cI,e2]
  rw[e3,jm]at he
  by_cases hc:p.getD j 0=0
  ·rw[if_pos hc]at he
   rw[hc,cH (show(((0:GF).1:Nat):Int)=0 from rfl)]
   exact CN p j k (by omega) (by omega) hb he
  ·rw[if_neg hc]at he
   rw[kg (fun e=>hc (GF.ext (by have e':=e;simp only[zero_val];omega))),←he]
   simp;omega
theorem CO{p:List GF}{k:Nat}(hk:p.length<k)(hb:p.length<4611686018427387904):fV.f k (bi p)=some (((aW p).length:Int)-1):=by
 unfold fV.f
 rw[bi_length,ca (by omega) (by omega)]
 exact CN p p.length k (aI _) hk hb (by rw[List.take_length])
theorem nc{p:List GF}{k:Nat}(hk:p.length<k)(hb:p.length<4294967296):gx.f k (bi p)=some (bi (aW p)):=by
 unfold gx.f
 have hl:=gP p
 rw[CO hk (by omega),aJ,ca (by omega) (by omega),aF (by rw[bi_length];omega)]
 have e:(((aW p).length:Int)-1+1).toNat=(aW p).length:=by omega
 rw[e,lh,tQ,List.drop_zero,aF (by rw[bi_length];simp;omega)];rfl
theorem uq(p:List GF)(j:Nat):jr.f (bi p) (j:Int)=some (((p.getD j 0).1:Nat):Int):=by
 unfold jr.f
 rw[aQ (by omega)]
 by_cases h:j<p.length
 ·rw[aQ (by rw[bi_length];omega),aF (by rw[bi_length];omega),cI]
 ·rw[bh (by rw[bi_length];omega)]
  have:p.getD j 0=0:=by simp[bF,List.getElem?_eq_none (by omega:p.length≤j)]
  rw[this];rfl
theorem De{p:List GF}{n k:Nat}(hn:n<1000)(hp:p.length<1000)(hk:n+p.length<k):lQ.f k (bi p) (n:Int)=some (bi (aW (List.replicate n 0++p))):=by
 unfold lQ.f
 rw[aF (by omega),Int.toNat_natCast,aF (by rw[List.length_replicate,bi_length];omega),gZ,←gb,nc (by simp;omega) (by simp;omega)];rfl
theorem C8(c:GF)(p:List GF)(hp:p.length<1000):∀(d i k:Nat),i+d=p.length→1000+d<k→
 iZ.l0 k ((c.1:Nat):Int) (bi p) (bi ((p.take i).map (c* ·))) (i:Int)=some (bi (aW (p.map (c* ·))))
 |d,i,0,_,h=>by omega
 |0,i,k+1,hd,hk=>by
  rw[iZ.l0,aQ (by rw[bi_length];omega),List.take_of_length_le (by omega),nc (by simp;omega) (by simp;omega)];rfl
 |d+1,i,k+1,hd,hk=>by
  have hi:i<p.length:=by omega
  rw[iZ.l0,bh (by rw[bi_length];omega),aF (by rw[bi_length];omega),cI,qk (by omega),aJ,aF (by rw[bi_length];simp;omega),bT (by omega)]
  have e:bi ((p.take i).map (c* ·))++[(((c*p.getD i 0).1:Nat):Int)]=bi ((p.take (i+1)).map (c* ·)):=by
   rw[List.take_succ_eq_append_getElem hi,dG hi,List.map_append,gb];rfl
  rw[e]
  exact C8 c p hp d (i+1) k (by omega) (by omega)
theorem Pq{c:GF}{p:List GF}{k:Nat}(hp:p.length<1000)(hk:2000<k):iZ.f k ((c.1:Nat):Int) (bi p)=some (bi (aW (p.map (c* ·)))):=C8 c p hp p.length 0 k (by omega) (by omega)
def gR(p q:List GF):List GF:=(List.range (max p.length q.length)).map fun j=>p.getD j 0+q.getD j 0
theorem I3(f:Nat→GF)(n j:Nat):((List.range n).map f).getD j 0=if j<n then f j else 0:=by
 simp only[bF,List.getElem?_map]
 by_cases h:j<n
 ·rw[if_pos h,List.getElem?_eq_getElem (by simpa using h)];simp
 ·rw[if_neg h,List.getElem?_eq_none (by simpa using h)];rfl
theorem pH{p:List GF}{j:Nat}(h:p.length≤j):p.getD j 0=0:=by simp[bF,List.getElem?_eq_none h]
theorem B6(p q:List GF)(j:Nat):(gR p q).getD j 0=p.getD j 0+q.getD j 0:=by
 rw[gR,I3]
 by_cases h:j<max p.length q.length
 ·rw[if_pos h]
 ·rw[if_neg h,pH (p:=p) (by omega),pH (p:=q) (by omega),GF.add_zero]
theorem B7(p q:List GF)(x:GF):pv (gR p q) x=pv p x+pv q x:=by
 have hp:pv (p++List.replicate (max p.length q.length-p.length) 0) x=pv p x:=by rw[fS,ic,GF.mul_zero,GF.add_zero]
 have hq:pv (q++List.replicate (max p.length q.length-q.length) 0) x=pv q x:=by rw[fS,ic,GF.mul_zero,GF.add_zero]
 rw[←hp,←hq,←xa x _ _ (by simp;omega)]
 congr 1
 apply List.ext_getElem
 ·simp[gR];omega
 ·intro j h1 h2
  have hz:∀(l:List GF)(m:Nat)(h:j<(l++List.replicate m 0).length),(l++List.replicate m 0)[j]=l.getD j 0:=fun l m h=>by
   rw[List.getElem_append]
   split
   ·rename_i h';rw[dG h']
   ·rename_i h';rw[List.getElem_replicate,pH (by omega)]
  rw[List.getElem_zipWith,hz,hz]
  simp[gR]
theorem CL(p q:List GF)(hp:p.length<1000)(hq:q.length<1000):∀(d i k:Nat),i+d=max p.length q.length→1000+d<k→
 iY.l0 k (bi p) (bi q) (bi ((gR p q).take i)) (i:Int)=some (bi (aW (gR p q)))
 |d,i,0,_,h=>by omega
 |d,i,k+1,hd,hk=>by
  have hm:max2 ((bi p).length:Int) ((bi q).length:Int)=((max p.length q.length:Nat):Int):=by rw[bi_length,bi_length];unfold max2;split<;>omega
  have hl:(gR p q).length=max p.length q.length:=by simp[gR]
  cases d with
  |zero=>
   rw[iY.l0,hm,aQ (by omega),List.take_of_length_le (by omega),nc (by omega) (by omega)];rfl
  |succ d=>
   rw[iY.l0,hm,bh (by omega),uq,aJ,uq,aJ,xor_val,aF (by rw[bi_length];simp;omega),bT (by omega)]
   have hi:i<(gR p q).length:=by omega
   have e:bi ((gR p q).take i)++[(((p.getD i 0+q.getD i 0).1:Nat):Int)]=bi ((gR p q).take (i+1)):=by
    rw[List.take_succ_eq_append_getElem hi,←B6,dG hi,gb];rfl
   rw[e]
   exact CL p q hp hq d (i+1) k (by omega) (by omega)
theorem OU{p q:List GF}{k:Nat}(hp:p.length<1000)(hq:q.length<1000)(hk:2000<k):iY.f k (bi p) (bi q)=some (bi (aW (gR p q))):=CL p q hp hq (max p.length q.length) 0 k (by omega) (by omega)
theorem wE{n:Nat}{p:List GF}(h:∀j,n≤j→p.getD j 0=0):(aW p).length≤n:=by
 rcases Nat.lt_or_ge n (aW p).length with hlt|hge
 ·exfalso
  rcases List.eq_nil_or_concat (aW p)with e|⟨q,c,e⟩
  ·rw[e]at hlt;simp at hlt
  ·rw[List.concat_eq_append]at e
   have hc:c=0:=by
    have:=jR p q.length
    rw[h q.length (by rw[e]at hlt;simp at hlt;omega),e]at this
    simpa [bF] using this
   obtain⟨m,h1,_⟩:=oe _ p rfl
   have h2:aW p=aW q:=by
    conv=>lhs;rw[h1]
    rw[e,hc]
    have:∀m,aW (q++[0]++List.replicate m 0)=aW q:=fun m=>by
     induction m with
     |zero=>rw[List.replicate_zero,List.append_nil,jm,if_pos rfl]
     |succ m ih=>rw[List.replicate_succ',←List.append_assoc,jm,if_pos rfl,ih]
    exact this m
   have h3:=gP q
   rw[←h2,e]at h3
   simp at h3
   omega
 ·exact hge
theorem wG(p:List GF):aW (aW p)=aW p:=by
 obtain⟨m,h1,_⟩:=oe _ p rfl
 have h2:∀m,aW (aW p++List.replicate m 0)=aW (aW p):=fun m=>by
  induction m with
  |zero=>rw[List.replicate_zero,List.append_nil]
  |succ m ih=>rw[List.replicate_succ',←List.append_assoc,jm,if_pos rfl,ih]
 rw[←h2 m,←h1]
theorem C1(p q:List GF)(i:Nat)(hi:i<p.length):∀(d j k:Nat)(L:List GF),j+d=q.length→d+30<k→i+q.length≤L.length→L.length<4294967296→
 ∃k',k=k'+d+1∧dX.l1 k (bi p) (bi q) (i:Int) (bi L) (j:Int)=dX.l0 k' (bi p) (bi q) (bi (fL (i+j) ((q.drop j).map (p.getD i 0* ·)) L)) (IntKind.i64.wrap ((i:Int)+1))
 |d,j,0,L,_,h,_,_=>by omega
 |0,j,k+1,L,hd,hk,hL,hb=>by
  refine⟨k,by omega,?_⟩
  rw[dX.l1,aQ (by rw[bi_length];omega),List.drop_of_length_le (by omega)];rfl
 |d+1,j,k+1,L,hd,hk,hL,hb=>by
  have e1:IntKind.i64.wrap ((i:Int)+(j:Int))=((i+j:Nat):Int):=by rw[ca (by omega) (by omega)];omega
  have e2:IntKind.i64.wrap ((j:Int)+1)=((j+1:Nat):Int):=bT (by omega)
  obtain⟨k',h1,h2⟩:=C1 p q i hi d (j+1) k (L.set (i+j) (L.getD (i+j) 0+p.getD i 0*q.getD j 0)) (by omega) (by omega) (by simp;omega) (by simpa using hb)
  refine⟨k',by omega,?_⟩
  have hj:j<q.length:=by omega
  have e3:q.drop j=q.getD j 0::q.drop (j+1):=by
   rw[List.drop_eq_getElem_cons hj,dG hj]
  rw[dX.l1,bh (by rw[bi_length];omega),e1,aF (by rw[bi_length];omega),aF (by rw[bi_length];omega),aF (by rw[bi_length];omega),cI,cI,qk (by omega),aJ,aF (by rw[bi_length];omega),e2,cI,xor_val,Int.toNat_natCast,gY,h2,e3]
  rfl
theorem C0(p q:List GF)(hq:q.length<1000):∀(d i k:Nat)(L:List GF),i+d=p.length→p.length+q.length≤L.length→L.length+100+d*(q.length+40)<k→L.length<4294967296→
 ∃L',L'.length=L.length∧(∀x,pv L' x=pv L x+pow x i*(pv (p.drop i) x*pv q x))∧dX.l0 k (bi p) (bi q) (bi L) (i:Int)=some (bi (aW L'))
 |d,i,0,L,_,_,h,_=>by omega
 |0,i,k+1,L,hj,hL,hk,hb=>by
  refine⟨L,rfl,fun x=>by rw[List.drop_of_length_le (by omega),pv,zero_mul,mul_zero,add_zero],?_⟩
  rw[dX.l0,aQ (by rw[bi_length];omega),nc (by omega) hb];rfl
 |d+1,i,k+1,L,hj,hL,hk,hb=>by
  have hmul:(d+1)*(q.length+40)=d*(q.length+40)+q.length+40:=by rw[Nat.add_mul];omega
  have hi:i<p.length:=by omega
  obtain⟨k',h1,h2⟩:=C1 p q i hi q.length 0 k L (by omega) (by omega) (by omega) hb
  rw[show((0:Nat):Int)=0 from rfl,Nat.add_zero,List.drop_zero,bT (by omega)]at h2
  rw[dX.l0,bh (by rw[bi_length];omega),h2]
  obtain⟨L',h4,h5,h6⟩:=C0 p q hq d (i+1) k' (fL i (q.map (p.getD i 0* ·)) L) (by omega) (by rw[j9];exact hL) (by rw[j9];omega) (by rw[j9];exact hb)
  refine⟨L',by rw[h4,j9],fun x=>?_,h6⟩
  have e3:p.drop i=p.getD i 0::p.drop (i+1):=by rw[List.drop_eq_getElem_cons hi,dG hi]
  rw[h5 x,rQ x _ _ _ (by simp;omega),mX,e3,pv,add_mul,GF.mul_add,GF.add_assoc]
  congr 2
  rw[pow];ac_rfl
theorem Pj{p q:List GF}{k:Nat}(hq:q.length<1000)(hp:p.length<1000)(hk:p.length+q.length+100+p.length*(q.length+40)<k):
 ∃L,L.length=p.length+q.length∧(∀x,pv L x=pv p x*pv q x)∧dX.f k (bi p) (bi q)=some (bi (aW L)):=by
 have e1:IntKind.i64.wrap (((bi p).length:Int)+((bi q).length:Int))=((p.length+q.length:Nat):Int):=by rw[bi_length,bi_length,ca (by omega) (by omega)];omega
 obtain⟨L,h1,h2,h3⟩:=C0 p q hq p.length 0 k (List.replicate (p.length+q.length) 0) (by omega) (by simp) (by simpa using hk) (by simp;omega)
 refine⟨L,by simpa using h1,fun x=>by rw[h2 x,ic,GF.zero_add,List.drop_zero,pow,GF.one_mul],?_⟩
 unfold dX.f
 rw[e1,aF (by omega),Int.toNat_natCast,gZ]
 exact h3
theorem Ph{n k:Nat}{g:List GF}(r:GF)(h:Mon n g)(hn:n≤253)(hk:20000<k):dX.f k (bi g) [((r.1:Nat):Int),1]=some (bi (mulL r g)):=by
 obtain⟨L,h1,h2,h3⟩:=Pj (p:=g) (q:=[r,1]) (k:=k) (by simp) (by rw[h.1];omega) (by rw[h.1];simp;omega)
 rw[show([((r.1:Nat):Int),1]:List Int)=bi [r,1] from rfl,h3]
 have e:L=mulL r g++[0]:=ua (by rw[h1,List.length_append,nZ];rfl) (by rw[h1,h.1];simp;omega) fun x=>by
  rw[h2,fS,lI]
  simp only[pv,GF.mul_zero,GF.add_zero,GF.mul_one]
  exact GF.mul_comm _ _
 rw[e,jm,if_pos rfl,wF (rH r h)]
theorem CY(rs:List GF)(hr:rs.length≤254):∀(d i k:Nat)(g:List GF),i+d=rs.length→Mon i g→20000+d<k→
 iq.l0 k (bi rs) (bi g) (i:Int)=some (bi ((rs.drop i).foldl (fun g r=>mulL r g) g))
 |d,i,0,_,_,_,h=>by omega
 |0,i,k+1,g,hd,hm,hk=>by
  rw[iq.l0,aQ (by rw[bi_length];omega),List.drop_of_length_le (by omega)];rfl
 |d+1,i,k+1,g,hd,hm,hk=>by
  have hi:i<rs.length:=by omega
  rw[iq.l0,bh (by rw[bi_length];omega),aF (by rw[bi_length];omega),cI,Ph _ hm (by omega) (by omega),aJ,bT (by omega)]
  rw[CY rs hr d (i+1) k _ (by omega) (rH _ hm) (by omega)]
  have e3:rs.drop i=rs.getD i 0::rs.drop (i+1):=by rw[List.drop_eq_getElem_cons hi,dG hi]
  rw[e3];rfl
theorem Pe{rs:List GF}{k:Nat}(hr:rs.length≤254)(hk:21000<k):iq.f k (bi rs)=some (bi (gr rs)):=by
 unfold iq.f
 have:=CY rs hr rs.length 0 k [1] (by omega) ⟨rfl,rfl⟩ (by omega)
 rw[show([1]:List Int)=bi [1] from rfl,show(0:Int)=((0:Nat):Int) from rfl,this,List.drop_zero];rfl
theorem xv{N K B:Nat}(h:Cd N K B):kC.f ((N:Int),(K:Int),(B:Int))=some 0:=by
 obtain⟨h1,h2,h3,h4⟩:=h
 unfold kC.f
 rw[aQ (by simp only;omega),aQ (by simp only;omega),aQ (by simp only;omega),aQ (by simp only;omega),aQ (by simp only;omega)]
theorem C9{N K B:Nat}(h:Cd N K B):lR.f ((N:Int),(K:Int),(B:Int))=some ((N-K:Nat):Int):=by
 unfold lR.f
 obtain⟨h1,h2,h3,h4⟩:=id h
 simp only
 rw[xv h,aJ,cH rfl,ca (by omega) (by omega)]
 congr 1;omega
theorem C6(a:GF)(n:Nat)(hn:n<1000):∀(d i k:Nat),i+d=n→30+d<k→eX.l0 k ((a.1:Nat):Int) (n:Int) (((pow a i).1:Nat):Int) (i:Int)=some (((pow a n).1:Nat):Int)
 |d,i,0,_,h=>by omega
 |0,i,k+1,hd,hk=>by
  obtain rfl:i=n:=by omega
  rw[eX.l0,aQ (by omega)]
 |d+1,i,k+1,hd,hk=>by
  rw[eX.l0,bh (by omega),qk (by omega),aJ,bT (by omega)]
  exact C6 a n hn d (i+1) k (by omega) (by omega)
theorem Pp{n k:Nat}(hn:n<4611686018427387904)(hk:1000<k):oC.f k (n:Int)=some (((pow al n).1:Nat):Int):=by
 unfold oC.f eX.f
 by_cases h0:n=0
 ·subst h0
  rw[bh (by rfl)];rfl
 ·have e1:Int.tmod (n:Int) 255=((n%255:Nat):Int):=by rw[Int.tmod_eq_emod_of_nonneg (by omega)];omega
  rw[aQ (by omega),aQ (by decide),e1,aQ (by omega)]
  unfold eX.j0
  have:=C6 al (n%255) (by omega) (n%255) 0 k (by omega) (by omega)
  have e2:pow al (n%255)=pow al n:=GF.ext (by rw[jW,jW];exact nP (a:=2) (by decide) (by decide) n)
  rw[e2]at this
  exact congrArg (fun o:Option Int=>o.bind some) this
theorem C7{N K B:Nat}(hc:Cd N K B):∀(d i k:Nat),i+d=N-K→1000+d<k→js.l0 k ((N:Int),(K:Int),(B:Int)) (bi (eQ B i)) (i:Int)=some (bi (eQ B (N-K)))
 |d,i,0,_,h=>by omega
 |d,i,k+1,hd,hk=>by
  obtain⟨c1,c2,c3,c4⟩:=id hc
  rw[js.l0]
  simp only
  rw[C9 hc,aJ]
  cases d with
  |zero=>
   obtain rfl:i=N-K:=by omega
   rw[aQ (by omega)]
  |succ d=>
   have e1:IntKind.i64.wrap ((B:Int)+(i:Int))=((B+i:Nat):Int):=by rw[ca (by omega) (by omega)];omega
   rw[bh (by omega),e1,Pp (by omega) (by omega),aJ,aF (by rw[bi_length,lS];simp;omega),bT (by omega)]
   have e:bi (eQ B i)++[(((pow al (B+i)).1:Nat):Int)]=bi (eQ B (i+1)):=by rw[Da,gb];rfl
   rw[e]
   exact C7 hc d (i+1) k (by omega) (by omega)
theorem Pf{N K B k:Nat}(hc:Cd N K B)(hk:21000<k):oB.f k ((N:Int),(K:Int),(B:Int))=some (bi (gr (eQ B (N-K)))):=by
 obtain⟨c1,c2,c3,c4⟩:=id hc
 unfold oB.f js.f
 simp only
 have:=C7 hc (N-K) 0 k (by omega) (by omega)
 rw[show bi (eQ B 0)=[] from rfl,show((0:Nat):Int)=0 from rfl]at this
 rw[xv hc,aJ,cH rfl,this,aJ,Pe (by rw[lS];omega) hk];rfl
theorem OX{c:GF}{k:Nat}(hk:100<k):oz.f k ((c.1:Nat):Int) 1=some ((c.1:Nat):Int):=by
 have hinv:iX.f k 1=some (1,true):=by
  obtain⟨k,rfl⟩:∃m,k=m+2:=⟨k-2,by omega⟩
  unfold iX.f
  have m0:=qk (a:=1) (b:=0) (k:=k+1) (by omega)
  have m1:=qk (a:=1) (b:=1) (k:=k) (by omega)
  rw[GF.mul_zero]at m0
  rw[GF.mul_one]at m1
  rw[iX.l0,bh (by decide),show IntKind.u8.wrap 0=(((0:GF).1:Nat):Int) by decide,show(1:Int)=(((1:GF).1:Nat):Int) from rfl,m0,aJ,aQ (by decide),show IntKind.i64.wrap ((0:Int)+(((1:GF).1:Nat):Int))=1 by decide,iX.l0,bh (by decide),show IntKind.u8.wrap 1=(((1:GF).1:Nat):Int) by decide,m1,aJ,bh (show(((1:GF).1:Nat):Int)=1 from rfl)]
 have m2:=qk (a:=c) (b:=1) (k:=k) (by omega)
 rw[GF.mul_one]at m2
 unfold oz.f
 rw[hinv,aJ,show(1,true).1=(((1:GF).1:Nat):Int) from rfl,m2];rfl
theorem CP{s:Nat}{g:List GF}(hg:Mon s g)(hs:s≤254):∀(d i k:Nat)(l q:List GF),i+1=s+d→i<600→i<q.length+s→q.length<1000→aW l=l→(∀j,i+1≤j→l.getD j 0=0)→3000+d<k→
 ∃(R:List GF)(q':List Int),R.length≤s∧(∀x,pv g x=0→pv R x=pv l x)∧eC.l0 k (bi g) (s:Int) (bi l) (bi q) (i:Int)=some (q',bi R,true)
 |d,i,0,_,_,_,_,_,_,_,_,h=>by omega
 |0,i,k+1,l,q,hd,hi,hq,hq2,hn,hz,hk=>by
  refine⟨l,bi (aW q),?_,fun x _=>rfl,?_⟩
  ·rw[←hn];exact wE fun j hj=>hz j (by omega)
  ·rw[eC.l0,aQ (by omega)]
   unfold eC.j0
   rw[nc (by omega) (by omega)];rfl
 |d+1,i,k+1,l,q,hd,hi,hq,hq2,hn,hz,hk=>by
  have hll:l.length≤i+1:=by rw[←hn];exact wE fun j hj=>hz j hj
  have e2:IntKind.i64.wrap ((i:Int)-(s:Int))=((i-s:Nat):Int):=by rw[ca (by omega) (by omega)];omega
  have e4:IntKind.i64.wrap ((i:Int)-1)=(i:Int)-1:=ca (by omega) (by omega)
  rw[eC.l0,bh (by omega),aF (by rw[bi_length,hg.1];omega),uq,aJ,cI,hg.2,show(((1:GF).1:Nat):Int)=1 from rfl,OX (by omega),aJ,e2,aF (by rw[bi_length];omega),Pq (by rw[hg.1];omega) (by omega),aJ]
  generalize hc:l.getD i 0=c
  have hn1:=gP (g.map (c* ·))
  rw[List.length_map,hg.1]at hn1
  rw[De (by omega) (by omega) (by omega),aJ]
  have hn2:=gP (List.replicate (i-s) 0++aW (g.map (c* ·)))
  rw[List.length_append,List.length_replicate]at hn2
  rw[OU (by omega) (by omega) (by omega),aJ,Int.toNat_natCast,gY,e4]
  have hget:∀j,i≤j→(aW (gR l (aW (List.replicate (i-s) 0++aW (g.map (c* ·)))))).getD j 0=0:=fun j hj=>by
   have e5:(List.replicate (i-s) 0++aW (g.map (c* ·))).getD j 0=(aW (g.map (c* ·))).getD (j-(i-s)) 0:=by
    simp only[bF]
    rw[List.getElem?_append_right (by simp;omega),List.length_replicate]
   rw[jR,B6,jR,e5,jR]
   rcases Nat.eq_or_lt_of_le hj with rfl|hlt
   ·rw[show i-(i-s)=s by omega]
    have hsl:s<g.length:=by rw[hg.1];omega
    have:(g.map (c* ·)).getD s 0=c*g.getD s 0:=by simp[bF,hsl]
    rw[this,hg.2,GF.mul_one,hc,GF.eE]
   ·rw[hz j (by omega),pH (by rw[List.length_map,hg.1];omega),GF.add_zero]
  match i,hd,hi,hq,hz,e2,e4,hget,hc,hll,hn2 with
  |0,hd,hi,hq,hz,e2,e4,hget,hc,hll,hn2=>
   have hd0:d=0:=by omega
   have hs0:s=0:=by omega
   refine⟨aW (gR l (aW (List.replicate (0-s) 0++aW (g.map (c* ·))))),bi (aW (q.set (0-s) c)),?_,fun x hx=>?_,?_⟩
   ·rw[←wG];exact wE fun j hj=>hget j (by omega)
   ·rw[fG,B7,fG,fS,ic,GF.zero_add,fG,mX,hx,GF.mul_zero,GF.mul_zero,GF.add_zero]
   ·obtain⟨k,rfl⟩:∃m,k=m+1:=⟨k-1,by omega⟩
    rw[eC.l0,aQ (by omega)]
    unfold eC.j0
    rw[nc (by rw[List.length_set];omega) (by rw[List.length_set];omega)];rfl
  |i+1,hd,hi,hq,hz,e2,e4,hget,hc,hll,hn2=>
   rw[show((i+1:Nat):Int)-1=(i:Int) by omega]
   obtain⟨R,q',r1,r2,r3⟩:=CP hg hs d i k (aW (gR l (aW (List.replicate (i+1-s) 0++aW (g.map (c* ·)))))) (q.set (i+1-s) c) (by omega) (by omega) (by rw[List.length_set];omega) (by rw[List.length_set];omega) (wG _) hget (by omega)
   refine⟨R,q',r1,fun x hx=>?_,r3⟩
   rw[r2 x hx,fG,B7,fG,fS,ic,GF.zero_add,fG,mX,hx,GF.mul_zero,GF.mul_zero,GF.add_zero]
theorem Pg{s k:Nat}{g a:List GF}(hg:Mon s g)(hs0:0<s)(hs:s≤254)(ha:a.length<500)(hk:5000<k):
 ∃R:List GF,R.length≤s∧(∀x,pv g x=0→pv R x=pv a x)∧oA.f k (bi a) (bi g)=some (bi R,true):=by
 have hdeg:fV.f k (bi g)=some (s:Int):=by rw[CO (by rw[hg.1];omega) (by rw[hg.1];omega),wF hg,hg.1];congr 1;omega
 have hna:=gP a
 have e1:IntKind.i64.wrap (((bi a).length:Int)+1)=((a.length+1:Nat):Int):=by rw[bi_length,ca (by omega) (by omega)];omega
 have hz:∀j,a.length+1≤j→(aW a).getD j 0=0:=fun j hj=>pH (by omega)
 have key:∃(R:List GF)(q':List Int),R.length≤s∧(∀x,pv g x=0→pv R x=pv (aW a) x)∧eC.l0 k (bi g) (s:Int) (bi (aW a)) (bi (List.replicate (a.length+1) 0)) (a.length:Int)=some (q',bi R,true):=by
  by_cases hle:s≤a.length+1
  ·exact CP hg hs (a.length+1-s) a.length k (aW a) (List.replicate (a.length+1) 0) (by omega) (by omega) (by simp;omega) (by simp;omega) (wG a) hz (by omega)
  ·refine⟨aW a,bi (aW (List.replicate (a.length+1) 0)),by omega,fun x _=>rfl,?_⟩
   obtain⟨k,rfl⟩:∃m,k=m+1:=⟨k-1,by omega⟩
   rw[eC.l0,aQ (by omega)]
   unfold eC.j0
   rw[nc (by simp;omega) (by simp;omega)];rfl
 obtain⟨R,q',r1,r2,r3⟩:=key
 refine⟨R,r1,fun x hx=>by rw[r2 x hx,fG],?_⟩
 unfold oA.f eC.f
 rw[hdeg,aJ,aQ (by omega),nc (by omega) (by omega),aJ,e1,aF (by omega),Int.toNat_natCast,gZ,bi_length,r3];rfl
theorem CS{s:Nat}{R m:List GF}{b:Bool}(hs:s<1000)(hm:m.length<1000):∀(d i k:Nat),i+d=s→d<k→
 ir.l0 k (bi m) (s:Int) (bi R,b) (bi ((List.range i).map fun j=>R.getD j 0)) (i:Int)=some (bi ((List.range s).map (fun j=>R.getD j 0)++m),0)
 |d,i,0,_,h=>by omega
 |0,i,k+1,hd,hk=>by
  obtain rfl:i=s:=by omega
  rw[ir.l0,aQ (by omega),aF (by rw[bi_length,bi_length];simp;omega),gb]
 |d+1,i,k+1,hd,hk=>by
  rw[ir.l0,bh (by omega)]
  simp only
  rw[uq,aJ,aF (by rw[bi_length];simp;omega),bT (by omega)]
  have e:bi ((List.range i).map fun j=>R.getD j 0)++[(((R.getD i 0).1:Nat):Int)]=bi ((List.range (i+1)).map fun j=>R.getD j 0):=by
   rw[List.range_succ,List.map_append,gb];rfl
  rw[e]
  exact CS hs hm d (i+1) k (by omega) (by omega)
theorem L9{R:List GF}{s:Nat}(h:R.length≤s):(List.range s).map (fun j=>R.getD j 0)=R++List.replicate (s-R.length) 0:=by
 apply List.ext_getElem
 ·simp;omega
 ·intro j h1 h2
  rw[List.getElem_map,List.getElem_range,List.getElem_append]
  split
  ·rename_i h';rw[dG h']
  ·rename_i h';rw[List.getElem_replicate,pH (by omega)]
theorem O7{N K B k:Nat}{m:List GF}(h:Cd N K B)(hm:m.length=K)(hk:30000<k):∃W,Wd N K B m W∧ir.f k ((N:Int),(K:Int),(B:Int)) (bi m)=some (bi W,0):=by
 obtain⟨c1,c2,c3,c4⟩:=id h
 have hgm:=I0 (eQ B (N-K))
 rw[lS]at hgm
 have hna:=gP (List.replicate (N-K) 0++m)
 rw[List.length_append,List.length_replicate,hm]at hna
 obtain⟨R,r1,r2,r3⟩:=Pg (k:=k) (a:=aW (List.replicate (N-K) 0++m)) hgm (by omega) (by omega) (by omega) (by omega)
 have hl:=CS (s:=N-K) (R:=R) (m:=m) (b:=true) (by omega) (by omega) (N-K) 0 k (by omega) (by omega)
 rw[L9 r1]at hl
 refine⟨R++List.replicate (N-K-R.length) 0++m,⟨?_,?_,?_⟩,?_⟩
 ·simp[hm];omega
 ·exact List.drop_left' (by simp;omega)
 ·intro x hx
  have e1:=r2 x (I1 hx)
  rw[List.append_assoc,fS,fS,ic,GF.zero_add,List.length_replicate,←GF.mul_assoc,←pow_add,e1,fG,fS,ic,GF.zero_add,List.length_replicate,show R.length+(N-K-R.length)=N-K by omega,GF.eE]
 ·unfold ir.f
  simp only
  rw[xv h,aJ,cH rfl,cH (by rw[bi_length,hm]),C9 h,aJ,De (by omega) (by omega) (by omega),aJ,Pf h (by omega),aJ,r3,aJ]
  exact hl
def tx(l:List UInt8):ByteArray:=⟨⟨l⟩⟩
theorem cK(l:List UInt8):(tx l).size=l.length:=rfl
theorem gF(a b:List UInt8):cat (tx a) (tx b)=tx (a++b):=rfl
theorem sc{a b:List UInt8}:tx a=tx b↔a=b:=⟨fun h=>by injection h with h;injection h,fun h=>by rw[h]⟩
def hd(n:Nat):UInt8:=if n<10 then UInt8.ofNat (48+n)else UInt8.ofNat (87+n)
def dH(p:List GF):List UInt8:=p.flatMap fun a=> [hd (a.1/16),hd (a.1%16)]
def mC(p:List GF):ByteArray:=if p=[]then tx [45]else tx (dH p)
theorem tt(a:GF)(p:List GF):dH (a::p)=hd (a.1/16)::hd (a.1%16)::dH p:=rfl
theorem AP(p q:List GF):dH (p++q)=dH p++dH q:=by simp[dH]
theorem kS:∀p:List GF,(dH p).length=2*p.length
 | []=>rfl
 |a::p=>by rw[tt];simp[kS p];omega
theorem Ae(k:Nat):∀d:Nat,d<16→nh.f (k+1) (d:Int) 16=some (tx [hd d])
 |0,_=>rfl
 |1,_=>rfl
 |2,_=>rfl
 |3,_=>rfl
 |4,_=>rfl
 |5,_=>rfl
 |6,_=>rfl
 |7,_=>rfl
 |8,_=>rfl
 |9,_=>rfl
 |10,_=>rfl
 |11,_=>rfl
 |12,_=>rfl
 |13,_=>rfl
 |14,_=>rfl
 |15,_=>rfl
 |_+16,h=>by omega
theorem Dw{n:Nat}(h:n<256):IntKind.u8.wrap (Int.tdiv (n:Int) 16)=((n/16:Nat):Int):=by
 have:Int.tdiv (n:Int) 16=((n/16:Nat):Int):=by rw[Int.tdiv_eq_ediv_of_nonneg (by omega)];omega
 rw[this,lY (by omega) (by omega)]
theorem DD(n:Nat):Int.tmod (n:Int) 16=((n%16:Nat):Int):=by rw[Int.tmod_eq_emod_of_nonneg (by omega)];omega
theorem Ce(p:List GF)(hp:p.length<1000):∀(d i k:Nat),i+d=p.length→d+10<k→eM.l0 k (bi p) (tx (dH (p.take i))) (i:Int)=some (tx (dH p))
 |d,i,0,_,h=>by omega
 |0,i,k+1,hd',hk=>by
  rw[eM.l0,aQ (by rw[bi_length];omega),List.take_of_length_le (by omega)]
 |d+1,i,k+1,hd',hk=>by
  have hi:i<p.length:=by omega
  obtain⟨k',rfl⟩:∃m,k=m+1:=⟨k-1,by omega⟩
  have hb:=(p.getD i 0).2
  have hl:=kS (p.take i)
  have hl2:(p.take i).length=i:=by simp;omega
  rw[eM.l0,bh (by rw[bi_length];omega),aF (by rw[bi_length];omega),cI,Dw hb,iB (by omega),Ae k' _ (by omega),aJ,aF (by rw[cK,cK,hl,hl2];simp;omega),DD,iB (by omega),Ae k' _ (by omega),aJ,gF,aF (by rw[cK,cK,List.length_append,hl,hl2];simp;omega),gF,bT (by omega)]
  have e:dH (p.take i)++[hd ((p.getD i 0).1/16)]++[hd ((p.getD i 0).1%16)]=dH (p.take (i+1)):=by
   rw[List.take_succ_eq_append_getElem hi,dG hi,AP,List.append_assoc];rfl
  rw[e]
  exact Ce p hp d (i+1) (k'+1) (by omega) (by omega)
theorem wX{p:List GF}{k:Nat}(hp:p.length<1000)(hk:2000<k):eM.f k (bi p)=some (mC p):=by
 unfold eM.f mC
 cases p with
 |nil=>rw[bh (by rfl),if_pos rfl];rfl
 |cons a p=>
  rw[aQ (by rw[bi_length];simp;omega),if_neg (by simp)]
  exact Ce (a::p) hp (a::p).length 0 k (by omega) (by omega)
theorem zU{n:Nat}(h:n<16):ext jA (n:Int) ((n:Int)+1)=tx [hd n]:=by
 have hc:(List.range 16).all (fun n=>decide ((ext jA (n:Int) ((n:Int)+1)).data.toList=[hd n]))=true:=by decide+kernel
 have:=of_decide_eq_true (List.all_eq_true.1 hc n (List.mem_range.2 h))
 apply ByteArray.ext
 apply Array.ext'
 exact this
theorem CZ(p:List GF)(hp:p.length<1000):∀(d i k:Nat),i+d=p.length→d+10<k→fh.l0 k (bi p) (tx (dH (p.take i))) (i:Int)=some (tx (dH p))
 |d,i,0,_,h=>by omega
 |0,i,k+1,hd',hk=>by
  rw[fh.l0,aQ (by rw[bi_length];omega),List.take_of_length_le (by omega)]
 |d+1,i,k+1,hd',hk=>by
  have hi:i<p.length:=by omega
  have hb:=(p.getD i 0).2
  have hl:=kS (p.take i)
  have hl2:(p.take i).length=i:=by simp;omega
  have hsz:jA.size=16:=rfl
  have e1:IntKind.u8.wrap ((((p.getD i 0).1/16:Nat):Int)+1)=(((p.getD i 0).1/16:Nat):Int)+1:=lY (by omega) (by omega)
  have e2:IntKind.u8.wrap ((((p.getD i 0).1%16:Nat):Int)+1)=(((p.getD i 0).1%16:Nat):Int)+1:=lY (by omega) (by omega)
  rw[fh.l0,bh (by rw[bi_length];omega)]
  simp only[cI,Dw hb,DD,e1,e2,zU (show(p.getD i 0).1/16<16 by omega),zU (show(p.getD i 0).1%16<16 by omega),gF]
  rw[aF (by rw[bi_length];omega),aF (by rw[bi_length];omega),aF (by rw[hsz];omega),aF (by rw[cK,cK,hl,hl2];simp;omega),aF (by rw[bi_length];omega),aF (by rw[bi_length];omega),aF (by rw[hsz];omega),aF (by rw[cK,cK,List.length_append,hl,hl2];simp;omega),bT (by omega)]
  have e:dH (p.take i)++[hd ((p.getD i 0).1/16)]++[hd ((p.getD i 0).1%16)]=dH (p.take (i+1)):=by
   rw[List.take_succ_eq_append_getElem hi,dG hi,AP,List.append_assoc];rfl
  rw[e]
  exact CZ p hp d (i+1) k (by omega) (by omega)
theorem xt{p:List GF}{k:Nat}(hp:p.length<1000)(hk:2000<k):fh.f k (bi p)=some (mC p):=by
 unfold fh.f mC
 cases p with
 |nil=>rw[bh (by rfl),if_pos rfl];rfl
 |cons a p=>
  rw[aQ (by rw[bi_length];simp;omega),if_neg (by simp)]
  exact CZ (a::p) hp (a::p).length 0 k (by omega) (by omega)
theorem y1{l:List UInt8}{j:Nat}{b:UInt8}(h:l[j]? =some b)(hb:b.toNat<128):Utf8.decode (tx l) j=(b.toNat,1):=by
 rw[Lib.decode_N]
 have:(tx l).data.toList.getD j 0=b:=by show l.getD j 0=b;rw[bF,h];rfl
 rw[this]
 exact Lib.decodeN_ascii _ _ _ _ _ hb
theorem tq{n:Nat}(h:n<16):(hd n).toNat<128∧jU.f (((hd n).toNat:Nat):Int)=some ((n:Int),true)∧(hd n==10)=false∧(hd n==32)=false∧(hd n==45)=false:=by
 have hc:(List.range 16).all (fun n=>decide ((hd n).toNat<128∧jU.f (((hd n).toNat:Nat):Int)=some ((n:Int),true)∧(hd n==10)=false∧(hd n==32)=false∧(hd n==45)=false))=true:=by decide+kernel
 exact of_decide_eq_true (List.all_eq_true.1 hc n (List.mem_range.2 h))
theorem M6{n:Nat}(h:n<256):bits .or .u8 (IntKind.u8.wrap (0*2^min (4:Int).toNat 8)) ((n/16:Nat):Int)=((n/16:Nat):Int)∧bits .or .u8 (IntKind.u8.wrap (((n/16:Nat):Int)*2^min (4:Int).toNat 8)) ((n%16:Nat):Int)=(n:Int):=by
 have hc:(List.range 256).all (fun n=>decide (bits .or .u8 (IntKind.u8.wrap (0*2^min (4:Int).toNat 8)) ((n/16:Nat):Int)=((n/16:Nat):Int)∧bits .or .u8 (IntKind.u8.wrap (((n/16:Nat):Int)*2^min (4:Int).toNat 8)) ((n%16:Nat):Int)=(n:Int)))=true:=by decide+kernel
 exact of_decide_eq_true (List.all_eq_true.1 hc n (List.mem_range.2 h))
theorem AQ:∀(p:List GF)(j:Nat),j<p.length→(dH p)[2*j]? =some (hd ((p.getD j 0).1/16))∧(dH p)[2*j+1]? =some (hd ((p.getD j 0).1%16))
 | [],j,h=>by simp at h
 |a::p,0,_=>⟨rfl,rfl⟩
 |a::p,j+1,h=>by
  obtain⟨h1,h2⟩:=AQ p j (by simpa using h)
  rw[tt,show 2*(j+1)=2*j+1+1 by omega,List.getElem?_cons_succ,List.getElem?_cons_succ,List.getElem?_cons_succ,List.getElem?_cons_succ,List.getD_cons_succ]
  exact⟨h1,h2⟩
theorem DK(p:List GF)(hp:p.length<1000):∀(d j k:Nat),j+d=p.length→2*d<k→fx.l0 k (tx (dH p)) (bi (p.take j++List.replicate d 0)) (2*j)=some (bi p,true)
 |d,j,0,_,h=>by omega
 |0,j,k+1,hd',hk=>by
  rw[fx.l0,aQ (by rw[cK,kS];omega),List.take_of_length_le (by omega)];simp
 |d+1,j,k+1,hd',hk=>by
  obtain⟨k,rfl⟩:∃m,k=m+1:=⟨k-1,by omega⟩
  have hj:j<p.length:=by omega
  have hb:=(p.getD j 0).2
  obtain⟨g1,g2⟩:=AQ p j hj
  obtain⟨a1,a2,_⟩:=tq (n:=(p.getD j 0).1/16) (by omega)
  obtain⟨b1,b2,_⟩:=tq (n:=(p.getD j 0).1%16) (by omega)
  obtain⟨o1,o2⟩:=M6 hb
  have d1:=y1 g1 a1
  have d2:=y1 g2 b1
  have hjl:(p.take j).length=j:=by simp;omega
  have e1:IntKind.i64.wrap (Int.tdiv ((2*j:Nat):Int) 2)=(j:Int):=by
   have:Int.tdiv ((2*j:Nat):Int) 2=(j:Int):=by rw[Int.tdiv_eq_ediv_of_nonneg (by omega)];omega
   rw[this,iB (by omega)]
  have e2:IntKind.i64.wrap (Int.tdiv ((2*j+1:Nat):Int) 2)=(j:Int):=by
   have:Int.tdiv ((2*j+1:Nat):Int) 2=(j:Int):=by rw[Int.tdiv_eq_ediv_of_nonneg (by omega)];omega
   rw[this,iB (by omega)]
  have hlen:(p.take j++List.replicate (d+1) (0:GF)).length=p.length:=by simp;omega
  have hz:(p.take j++List.replicate (d+1) (0:GF)).getD j 0=0:=by
   simp only[bF]
   rw[List.getElem?_append_right (by omega),hjl,Nat.sub_self];rfl
  rw[fx.l0,bh (by rw[cK,kS];omega)]
  unfold ml o0
  rw[d1]
  simp only
  rw[a2,aJ]
  simp only[Bool.not_true,cond_false]
  rw[e1,aF (by rw[bi_length];omega),aF (by rw[bi_length];omega),cI,hz,show(((0:GF).1:Nat):Int)=0 from rfl,o1,Int.toNat_natCast]
  have hset:(bi (p.take j++List.replicate (d+1) 0)).set j (((p.getD j 0).1/16:Nat):Int)=bi (p.take j++GF.of ((p.getD j 0).1/16) (by omega)::List.replicate d 0):=by
   have:=gY (p.take j++List.replicate (d+1) 0) j (GF.of ((p.getD j 0).1/16) (by omega))
   refine this.trans ?_
   rw[List.set_append_right _ _ (by omega),hjl,Nat.sub_self,List.replicate_succ,List.set_cons_zero]
  rw[hset]
  have hlen2:(p.take j++GF.of ((p.getD j 0).1/16) (by omega)::List.replicate d 0).length=p.length:=by simp;omega
  have hz2:(p.take j++GF.of ((p.getD j 0).1/16) (by omega)::List.replicate d 0).getD j 0=GF.of ((p.getD j 0).1/16) (by omega):=by
   simp only[bF]
   rw[List.getElem?_append_right (by omega),hjl,Nat.sub_self];rfl
  rw[fx.l0,bh (by rw[cK,kS];omega)]
  unfold ml o0
  rw[d2]
  simp only
  rw[b2,aJ]
  simp only[Bool.not_true,cond_false]
  rw[e2,aF (by rw[bi_length];omega),aF (by rw[bi_length];omega),cI,hz2,show(((GF.of ((p.getD j 0).1/16) (by omega)).1:Nat):Int)=(((p.getD j 0).1/16:Nat):Int) from rfl,o2,Int.toNat_natCast,gY]
  have hset2:(p.take j++GF.of ((p.getD j 0).1/16) (by omega)::List.replicate d 0).set j (p.getD j 0)=p.take (j+1)++List.replicate d 0:=by
   rw[List.set_append_right _ _ (by omega),hjl,Nat.sub_self,List.set_cons_zero,List.take_succ_eq_append_getElem hj,dG hj,List.append_assoc];rfl
  rw[hset2,show 2*j+1+1=2*(j+1) by omega]
  exact DK p hp d (j+1) k (by omega) (by omega)
theorem DL{p:List GF}{k:Nat}(hp:p.length<1000)(hk:3000<k):fx.f k (mC p)=some (bi p,true):=by
 unfold fx.f mC
 cases p with
 |nil=>rw[if_pos rfl,bh (by rfl)];rfl
 |cons a p=>
  have h1:¬tx (dH (a::p))=mc:=fun e=>by
   have e':dH (a::p)=[45]:=sc.1 e
   have:=congrArg List.length e'
   rw[kS]at this
   simp at this;omega
  have h2:¬tx (dH (a::p))=dp:=fun e=>by
   have e':dH (a::p)=[]:=sc.1 e
   rw[tt]at e';cases e'
  have e1:Int.tdiv ((tx (dH (a::p))).size:Int) 2=((a::p).length:Int):=by rw[cK,kS,Int.tdiv_eq_ediv_of_nonneg (by omega)];omega
  rw[if_neg (by simp),aQ h1,aQ h2,aQ (by rw[cK,kS,Int.tmod_eq_emod_of_nonneg (by omega)];omega),e1,iB (by omega),aF (by omega),Int.toNat_natCast,gZ]
  exact DK (a::p) hp (a::p).length 0 k (by omega) (by omega)
theorem fw{n:Nat}(h:n<256):(num (n:Int)).length≤4∧num (n:Int)≠ []∧ni.f (tx (num (n:Int))) so=some (tx [])∧strconv_Atoi.f (tx (num (n:Int)))=some (n:Int)∧(num (n:Int)).all (fun b=>!(b==10)&&!(b==32))=true:=by
 have hc:(List.range 256).all (fun n=>decide ((num (n:Int)).length≤4∧num (n:Int)≠ []∧(ni.f (tx (num (n:Int))) so).map (·.data.toList)=some []∧strconv_Atoi.f (tx (num (n:Int)))=some (n:Int)∧(num (n:Int)).all (fun b=>!(b==10)&&!(b==32))=true))=true:=by decide+kernel
 obtain⟨h1,h2,h3,h4,h5⟩:=of_decide_eq_true (List.all_eq_true.1 hc n (List.mem_range.2 h))
 refine⟨h1,h2,?_,h4,h5⟩
 cases hs:ni.f (tx (num (n:Int))) so with
 |none=>rw[hs]at h3;cases h3
 |some b=>
  rw[hs]at h3
  simp only[Option.map_some,Option.some.injEq]at h3
  congr 1
  apply ByteArray.ext
  apply Array.ext'
  exact h3
theorem nR{n:Nat}(h:n<1000):strconv_Itoa.f (n:Int)=some (tx (num (n:Int))):=by
 unfold strconv_Itoa.f
 rw[aF (by omega)];rfl
def kx(l:List Nat):List ByteArray:=l.map fun n:Nat=>tx (num (n:Int))
theorem BO(l:List Nat)(hl:l.length<100)(hb:∀n∈l,n<256):∀(d i k:Nat),i+d=l.length→d<k→
 fR.l0 k (kx l) ((l.take i).map fun n:Nat=>(n:Int)) (i:Int)=some (l.map (fun n:Nat=>(n:Int)),true)
 |d,i,0,_,h=>by omega
 |0,i,k+1,hd',hk=>by
  rw[fR.l0,aQ (by simp[kx];omega),List.take_of_length_le (by omega)]
 |d+1,i,k+1,hd',hk=>by
  have hi:i<l.length:=by omega
  have hn:=hb l[i] (List.getElem_mem hi)
  obtain⟨f1,f2,f3,f4,_⟩:=fw hn
  have ea:at_ ByteArray.empty (kx l) (i:Int)=tx (num (l[i]:Int)):=by
   rw[nt (by simp[kx];omega)];simp[kx]
  have hs:(tx (num (l[i]:Int))).size≤4:=f1
  have hne:¬tx (num (l[i]:Int))=dp:=fun e=>f2 (sc.1 e)
  rw[fR.l0,bh (by simp[kx];omega),aF (by simp[kx];omega),ea,aQ hne,aQ (by omega),f3,aJ,cH (by rfl),f4,aJ,aF (by simp;omega),bT (by omega)]
  have e:(l.take i).map (fun n:Nat=>(n:Int))++[(l[i]:Int)]=(l.take (i+1)).map fun n:Nat=>(n:Int):=by
   rw[List.take_succ_eq_append_getElem hi,List.map_append];rfl
  rw[e]
  exact BO l hl hb d (i+1) k (by omega) (by omega)
theorem wK{l:List Nat}{k:Nat}(hl:l.length<100)(hb:∀n∈l,n<256)(hk:100<k):fR.f k (kx l)=some (l.map (fun n:Nat=>(n:Int)),true):=BO l hl hb l.length 0 k (by omega) (by omega)
theorem uB(c:UInt8):∀l:List UInt8,(∀b∈l,(b==c)=false)→dN c l=[l]
 | [],_=>rfl
 |b::l,h=>by
  rw[dN,h b List.mem_cons_self,uB c l fun x hx=>h x (List.mem_cons_of_mem _ hx)];rfl
theorem ng(c:UInt8)(r:List UInt8):∀l:List UInt8,(∀b∈l,(b==c)=false)→dN c (l++c::r)=l::dN c r
 | [],_=>by rw[List.nil_append,dN];simp
 |b::l,h=>by
  rw[List.cons_append,dN,h b List.mem_cons_self,ng c r l fun x hx=>h x (List.mem_cons_of_mem _ hx)];rfl
def qK(l:List UInt8):Bool:=l.all fun b=>!(b==10)&&!(b==32)
theorem nz{l:List UInt8}(h:qK l=true):∀b∈l,(b==10)=false:=fun b hb=>by
 have:=List.all_eq_true.1 h b hb
 simp only[Bool.and_eq_true,Bool.not_eq_true']at this
 exact this.1
theorem nA{l:List UInt8}(h:qK l=true):∀b∈l,(b==32)=false:=fun b hb=>by
 have:=List.all_eq_true.1 h b hb
 simp only[Bool.and_eq_true,Bool.not_eq_true']at this
 exact this.2
theorem y0:∀p:List GF,qK (dH p)=true
 | []=>rfl
 |a::p=>by
  have ha:=a.2
  obtain⟨_,_,a1,a2,_⟩:=tq (n:=a.1/16) (by omega)
  obtain⟨_,_,b1,b2,_⟩:=tq (n:=a.1%16) (by omega)
  have ih:=y0 p
  unfold qK at ih⊢
  rw[tt,List.all_cons,List.all_cons,a1,a2,b1,b2,ih];rfl
def cC(p:List GF):List UInt8:=if p=[]then [45]else dH p
theorem lF(p:List GF):mC p=tx (cC p):=by unfold mC cC;split<;>rfl
theorem sG(p:List GF):qK (cC p)=true:=by
 unfold cC;split
 ·rfl
 ·exact y0 p
theorem gL(p:List GF):(cC p).length≤2*p.length+1:=by
 unfold cC;split
 ·simp
 ·rw[kS];omega
theorem PJ{t:List UInt8}(h:t.length≤4294967280):strings_Split.f (tx t) du=some ((dN 10 t).map tx):=by
 unfold strings_Split.f
 show an (decide ((tx t).size≤4294967280)) _=_
 rw[aF (show(tx t).size≤4294967280 from h)];rfl
theorem r8{t:List UInt8}(h:t.length≤4294967280):strings_Split.f (tx t) bU=some ((dN 32 t).map tx):=by
 unfold strings_Split.f
 show an (decide ((tx t).size≤4294967280)) _=_
 rw[aF (show(tx t).size≤4294967280 from h)];rfl
theorem J9(k:Nat):pP.f (k+100000)=some true:=by kernel_rfl
theorem PF{a0 a1 a2:Int}(b0:0≤a0∧a0≤255)(b1:0≤a1∧a1≤255)(b2:0≤a2∧a2≤255):∃N K B:Nat,Cd N K B∧N≤22∧nU.f a0 a1 a2=some ((N:Int),(K:Int),(B:Int)):=by
 obtain⟨n,rfl⟩:∃n:Nat,a0=n:=⟨a0.toNat,by omega⟩
 obtain⟨k,rfl⟩:∃n:Nat,a1=n:=⟨a1.toNat,by omega⟩
 obtain⟨b,rfl⟩:∃n:Nat,a2=n:=⟨a2.toNat,by omega⟩
 have tm:∀x y:Nat,Int.tmod (x:Int) (y:Int)=((x%y:Nat):Int):=fun x y=>by rw[Int.tmod_eq_emod_of_nonneg (by omega)];omega
 have key:∀N:Nat,2≤N→N≤69→∃K B:Nat,Cd N K B∧jj.j0 (k:Int) (b:Int) (N:Int)=some ((N:Int),(K:Int),(B:Int)):=fun N h1 h2=>by
  have hm:=Nat.mod_lt k (show 0<N-1 by omega)
  refine⟨1+k%(N-1),b%255,⟨by omega,by omega,by omega,by omega⟩,?_⟩
  unfold jj.j0
  have e1:IntKind.i64.wrap ((N:Int)-1)=((N-1:Nat):Int):=by rw[ca (by omega) (by omega)];omega
  rw[e1,aF (by omega),iB (by omega),iB (by omega),tm,show(255:Int)=((255:Nat):Int) from rfl,tm,ca (by omega) (by omega)]
  rfl
 unfold nU.f jj.f
 rw[show(31:Int)=((31:Nat):Int) from rfl,show(32:Int)=((32:Nat):Int) from rfl,tm,tm,show(40:Int)=((40:Nat):Int) from rfl,tm,show(21:Int)=((21:Nat):Int) from rfl,tm]
 obtain⟨K,B,h1,h2⟩:=key (2+n%31%21) (by omega) (by omega)
 have e:IntKind.i64.wrap (2+IntKind.i64.wrap ((n%31%21:Nat):Int))=((2+n%31%21:Nat):Int):=by rw[iB (by omega),ca (by omega) (by omega)];omega
 exact⟨_,K,B,h1,by omega,by rw[aQ (by omega),e,h2];rfl⟩
theorem Mj{N K B:Nat}(hK:K<1000)(p:List GF):∃m:List GF,m.length=K∧nT.f ((N:Int),(K:Int),(B:Int)) (bi p)=some (bi m):=by
 refine⟨cB 0 (List.replicate K (0:GF)).length p (List.replicate K 0),by rw[cpy_len0];simp,?_⟩
 unfold nT.f
 simp only
 rw[aF (by omega),Int.toNat_natCast]
 congr 1
 unfold cB
 rw[gZ,bi_length,lh,lh,bi_length,nu,gb,gb]
def iH(N K B:Nat):List UInt8:=[99,111,100,101]++32::(num (N:Int)++32::(num (K:Int)++32::num (B:Int)))
def mV(d b:Nat):List UInt8:=[112,105,99,107]++32::(num (d:Int)++32::num (b:Int))
def iJ(m:List GF):List UInt8:=[100,101,99,111,100,101]++32::cC m
def jc(m:List GF):List UInt8:=[115,121,110,100]++32::cC m
def kL:List UInt8:=[97,115,107,101,100]
theorem KR{N K B:Nat}(hN:N<256)(hK:K<256)(hB:B<256):nV.f ((N:Int),(K:Int),(B:Int))=some (tx (iH N K B++[10])):=by
 obtain⟨f1,_⟩:=fw hN
 obtain⟨g1,_⟩:=fw hK
 obtain⟨h1,_⟩:=fw hB
 unfold nV.f
 simp only
 rw[nR (by omega),nR (by omega),nR (by omega)]
 simp only[aJ]
 rw[show lf=tx [99,111,100,101,32] from rfl,show gX=tx [32] from rfl,show sr=tx [10] from rfl]
 repeat rw[gF]
 rw[aF (by simp only[cK,List.length_append,List.length_cons,List.length_nil];omega),aF (by simp only[cK,List.length_append,List.length_cons,List.length_nil];omega),aF (by simp only[cK,List.length_append,List.length_cons,List.length_nil];omega),aF (by simp only[cK,List.length_append,List.length_cons,List.length_nil];omega),aF (by simp only[cK,List.length_append,List.length_cons,List.length_nil];omega),aF (by simp only[cK,List.length_append,List.length_cons,List.length_nil];omega)]
 simp[iH]
theorem qR{a:ByteArray}{l:List ByteArray}:((a::l).take (a::l).length).drop ((1:Int).toNat)=l:=by
 rw[List.take_length];rfl
theorem DZ{a b:List UInt8}(ha:∀x∈a,(x==32)=false)(hb:∀x∈b,(x==32)=false):dN 32 (a++32::b)=[a,b]:=by
 rw[ng 32 _ a ha,uB 32 b hb]
def P3(d:Nat):Prop:=d=1∨d=2∨d=3
theorem Gx{N K B d b:Nat}(hc:Cd N K B)(hd:P3 d)(hb:P3 b):lu.f ((N:Int),(K:Int),(B:Int)) ((d:Int),(b:Int))=some 0:=by
 unfold lu.f
 simp only
 rw[jX hc]
 rcases hd with rfl|rfl|rfl<;>rcases hb with rfl|rfl|rfl<;>rfl
theorem Gp{N K B d b:Nat}{e:Int}(hc:Cd N K B)(hd:P3 d)(hb:P3 b):dz.f ((N:Int),(K:Int),(B:Int)) e ((d:Int),(b:Int))=some (((d:Int),(b:Int)),0):=by
 unfold dz.f
 simp only
 rw[jX hc]
 rcases hd with rfl|rfl|rfl<;>rcases hb with rfl|rfl|rfl<;>rfl
theorem F2{N K B k d:Nat}{m W:List GF}(hc:Cd N K B)(hN:N≤22)(hd:P3 d)(h:Wd N K B m W)(hk:500000<k):jY.f k (d:Int) ((N:Int),(K:Int),(B:Int)) (bi W) []=some (bi W,true):=by
 obtain⟨c1,c2,c3,c4⟩:=id hc
 rcases hd with rfl|rfl|rfl
 ·exact FZ hc h (by omega)
 ·exact F0 hc h (by omega)
 ·exact F1 hc (by omega) (by omega) (Qa (by omega) hN) h hk
def cnt(d b j:Nat):List Int:=(List.replicate 16 (0:Int)).set (4*d+b) (j:Int)
theorem Gs{d b j:Nat}(hd:P3 d)(hb:P3 b)(hj:j<1000):(cnt d b j).set (cW (d:Int) (b:Int)).toNat (IntKind.i64.wrap (at_ 0 (cnt d b j) (cW (d:Int) (b:Int))+1))=cnt d b (j+1):=by
 have e:(cW (d:Int) (b:Int)).toNat=4*d+b:=by unfold cW;omega
 have hl:4*d+b<16:=by
  rcases hd with rfl|rfl|rfl<;>rcases hb with rfl|rfl|rfl<;>decide
 have ea:at_ 0 (cnt d b j) (cW (d:Int) (b:Int))=(j:Int):=by
  unfold at_;rw[e];simp[cnt,bF,hl]
 rw[e,ea,bT (by omega)]
 unfold cnt
 rw[List.set_set]
theorem Gy{N K B k d b j:Nat}{m W:List GF}(hc:Cd N K B)(hN:N≤22)(hd:P3 d)(hb:P3 b)(h:Wd N K B m W)(hj:j<1000)(hk:500000<k):mi.f k (cnt d b j) ((N:Int),(K:Int),(B:Int)) ((d:Int),(b:Int)) (bi W) []=some (((bi W,bi m,[]),0),cnt d b (j+1)):=by
 have hd4:(0:Int)≤(d:Int)∧(d:Int)<4:=by rcases hd with rfl|rfl|rfl<;>decide
 have hb4:(0:Int)≤(b:Int)∧(b:Int)<4:=by rcases hb with rfl|rfl|rfl<;>decide
 have hb3:(b:Int)=1∨(b:Int)=2∨(b:Int)=3:=by rcases hb with rfl|rfl|rfl<;>simp
 unfold mi.f
 simp only
 rw[Gx hc hd hb,aJ,cH rfl,cH (by rw[bi_length,h.len]),sW hc (by omega),aJ,cH rfl,Gp hc hd hb,aJ]
 simp only
 rw[aF hd4,aF hb4,aF hb4,aF hb3,F2 hc hN hd h hk,aJ]
 simp only[Bool.not_true,cond_false]
 rw[Fo hc h (by omega),aJ,Gs hd hb hj]
section
variable{k i:Nat}{lines:List ByteArray}{n:List Int}{out:List UInt8}{c1 c2 c3:Int}
theorem gu{a b:List UInt8}(h:a≠b):¬tx a=tx b:=fun e=>h (sc.1 e)
theorem Pu{N K B:Nat}{d0 b0:Int}(hl:at_ ByteArray.empty lines (i:Int)=tx (iH N K B))(hi:i<lines.length)(hi2:i<1000)(hc:Cd N K B)(ho:out.length≤1000000)(hk:200<k):
 bg.l0 (k+1) lines n (tx out) c1 c2 c3 d0 b0 (i:Int)=bg.l0 k lines n (tx (out++[111,107,10])) (N:Int) (K:Int) (B:Int) d0 b0 ((i+1:Nat):Int):=by
 obtain⟨q1,q2,q3,q4⟩:=id hc
 obtain⟨f1,_,_,_,f5⟩:=fw (n:=N) (by omega)
 obtain⟨g1,_,_,_,g5⟩:=fw (n:=K) (by omega)
 obtain⟨h1,_,_,_,h5⟩:=fw (n:=B) (by omega)
 have hw:(dN 32 (iH N K B)).map tx=tx [99,111,100,101]::kx [N,K,B]:=by
  unfold iH
  rw[ng 32 _ _ (by decide),ng 32 _ _ (nA f5),ng 32 _ _ (nA g5),uB 32 _ (nA h5)];rfl
 have hb:∀x∈ [N,K,B],x<256:=by simp;omega
 rw[bg.l0,bh (by omega),aF (by omega),hl,r8 (by simp[iH];omega),aJ,hw]
 rw[aF (by simp),bh (by rfl),aF (by simp;omega),qR,wK (by simp) hb (by omega),aJ]
 simp only[Bool.not_true,cond_false]
 rw[cH (by rfl),aF (by simp),aF (by simp),aF (by simp)]
 rw[show at_ 0 ([N,K,B].map fun n:Nat=>(n:Int)) 0=(N:Int) from rfl,show at_ 0 ([N,K,B].map fun n:Nat=>(n:Int)) 1=(K:Int) from rfl,show at_ 0 ([N,K,B].map fun n:Nat=>(n:Int)) 2=(B:Int) from rfl]
 rw[jX hc,aJ,cH rfl]
 unfold bg.j1
 rw[show cat mZ du=tx [111,107,10] from rfl,gF,aF (by decide),aF (by rw[cK,cK];simp;omega),bT (by omega)]
theorem Py{d b:Nat}{d0 b0:Int}(hd:P3 d)(hb:P3 b)(hl:at_ ByteArray.empty lines (i:Int)=tx (mV d b))(hi:i<lines.length)(hi2:i<1000)(ho:out.length≤1000000)(hk:200<k):
 bg.l0 (k+1) lines n (tx out) c1 c2 c3 d0 b0 (i:Int)=bg.l0 k lines n (tx (out++[111,107,10])) c1 c2 c3 (d:Int) (b:Int) ((i+1:Nat):Int):=by
 have hd256:d<256:=by rcases hd with rfl|rfl|rfl<;>decide
 have hb256:b<256:=by rcases hb with rfl|rfl|rfl<;>decide
 obtain⟨f1,_,_,_,f5⟩:=fw (n:=d) hd256
 obtain⟨g1,_,_,_,g5⟩:=fw (n:=b) hb256
 have hw:(dN 32 (mV d b)).map tx=tx [112,105,99,107]::kx [d,b]:=by
  unfold mV
  rw[ng 32 _ _ (by decide),ng 32 _ _ (nA f5),uB 32 _ (nA g5)];rfl
 have hbb:∀x∈ [d,b],x<256:=by simp;omega
 have hr:jS.f ((d:Int),(b:Int))=some 0:=by
  rcases hd with rfl|rfl|rfl<;>rcases hb with rfl|rfl|rfl<;>rfl
 rw[bg.l0,bh (by omega),aF (by omega),hl,r8 (by simp[mV];omega),aJ,hw]
 rw[aF (by simp),aQ (fun e=>by exact gu (a:=[112,105,99,107]) (b:=[99,111,100,101]) (by decide) e),bh (by rfl),aF (by simp;omega),qR,wK (by simp) hbb (by omega),aJ]
 simp only[Bool.not_true,cond_false]
 rw[cH (by rfl),aF (by simp),aF (by simp)]
 rw[show at_ 0 ([d,b].map fun n:Nat=>(n:Int)) 0=(d:Int) from rfl,show at_ 0 ([d,b].map fun n:Nat=>(n:Int)) 1=(b:Int) from rfl]
 rw[hr,aJ,cH rfl]
 unfold bg.j2
 rw[show cat mZ du=tx [111,107,10] from rfl,gF,aF (by decide),aF (by rw[cK,cK];simp;omega),bT (by omega)]
theorem Pv{N K B d b j:Nat}{m W:List GF}(hd:P3 d)(hb:P3 b)(hl:at_ ByteArray.empty lines (i:Int)=tx (iJ W))(hi:i<lines.length)(hi2:i<1000)(hc:Cd N K B)(hN:N≤22)(hm:m.length=K)(hW:Wd N K B m W)(ho:out.length≤1000000)(hj:j<1000)(hk:500000<k):
 bg.l0 (k+1) lines (cnt d b j) (tx out) (N:Int) (K:Int) (B:Int) (d:Int) (b:Int) (i:Int)=bg.l0 k lines (cnt d b (j+1)) (tx (out++(cC m++32::(cC W++[32,45,10])))) (N:Int) (K:Int) (B:Int) (d:Int) (b:Int) ((i+1:Nat):Int):=by
 obtain⟨q1,q2,q3,q4⟩:=id hc
 have w2:=Gy (k:=k) hc hN hd hb hW hj (by omega)
 have hlen:=gL m
 have hlen2:=gL W
 have hWl:=hW.len
 have hw:(dN 32 (iJ W)).map tx=[tx [100,101,99,111,100,101],tx (cC W)]:=by
  unfold iJ
  rw[DZ (by decide) (nA (sG W))];rfl
 rw[bg.l0,bh (by omega),aF (by omega),hl,r8 (by simp[iJ];omega),aJ,hw]
 rw[aF (by simp),aQ (fun e=>by exact gu (a:=[100,101,99,111,100,101]) (b:=[99,111,100,101]) (by decide) e),aQ (fun e=>by exact gu (a:=[100,101,99,111,100,101]) (b:=[112,105,99,107]) (by decide) e),aQ (fun e=>by exact gu (a:=[100,101,99,111,100,101]) (b:=[101,110,99,111,100,101]) (by decide) e),bh (by rfl),aF (by simp),qR,aQ (by simp),aF (by simp)]
 rw[show at_ ByteArray.empty [tx (cC W)] 0=tx (cC W) from rfl,←lF,DL (by omega) (by omega),aJ,lF,aF (by simp),qR]
 have hnum:=wK (l:=[]) (k:=k) (by simp) (by simp) (by omega)
 rw[show kx []=[] from rfl]at hnum
 rw[hnum,aJ]
 simp only[Bool.not_true,cond_false,List.map_nil]
 rw[w2,aJ,cH rfl]
 simp only
 rw[wX (by omega) (by omega),aJ,wX (by omega) (by omega),aJ]
 have hlist:bM.f k [] CK=some (tx [45]):=rfl
 rw[hlist,aJ,lF,lF]
 have hjoin:Lib.join [cC m,cC W,[45]] [32]=cC m++32::(cC W++[32,45]):=by simp[Lib.join,List.intercalate]
 have hsaid:kV.f [tx (cC m),tx (cC W),tx [45]]=some (tx (cC m++32::(cC W++[32,45]))):=by
  unfold kV.f strings_Join.f
  have e:([tx (cC m),tx (cC W),tx [45]]:List ByteArray).map (·.data.toList)=[cC m,cC W,[45]]:=rfl
  rw[e,show gX.data.toList=[32] from rfl,hjoin,aF (by simp;omega)];rfl
 rw[hsaid,aJ]
 unfold bg.j4
 rw[show cat (tx (cC m++32::(cC W++[32,45]))) du=tx ((cC m++32::(cC W++[32,45]))++[10]) from rfl,gF,aF (by rw[cK,show du.size=1 from rfl];simp;omega),aF (by rw[cK,cK];simp;omega),bT (by omega)]
 simp
theorem Pz{N K B:Nat}{d0 b0:Int}{m W:List GF}(hl:at_ ByteArray.empty lines (i:Int)=tx (jc W))(hi:i<lines.length)(hi2:i<1000)(hc:Cd N K B)(hN:N≤22)(hW:Wd N K B m W)(ho:out.length≤1000000)(hk:5000<k):
 bg.l0 (k+1) lines n (tx out) (N:Int) (K:Int) (B:Int) d0 b0 (i:Int)=bg.l0 k lines n (tx (out++(cC (List.replicate (N-K) 0)++[10]))) (N:Int) (K:Int) (B:Int) d0 b0 ((i+1:Nat):Int):=by
 have hlen2:=gL W
 have hlen3:=gL (List.replicate (N-K) 0)
 rw[List.length_replicate]at hlen3
 have hWl:=hW.len
 have hw:(dN 32 (jc W)).map tx=[tx [115,121,110,100],tx (cC W)]:=by
  unfold jc
  rw[DZ (by decide) (nA (sG W))];rfl
 rw[bg.l0,bh (by omega),aF (by omega),hl,r8 (by simp[jc];omega),aJ,hw]
 rw[aF (by simp),aQ (fun e=>by exact gu (a:=[115,121,110,100]) (b:=[99,111,100,101]) (by decide) e),aQ (fun e=>by exact gu (a:=[115,121,110,100]) (b:=[112,105,99,107]) (by decide) e),aQ (fun e=>by exact gu (a:=[115,121,110,100]) (b:=[101,110,99,111,100,101]) (by decide) e),aQ (fun e=>by exact gu (a:=[115,121,110,100]) (b:=[100,101,99,111,100,101]) (by decide) e),bh (by rfl),aF (by simp),qR,cH (by rfl),aF (by simp)]
 rw[show at_ ByteArray.empty [tx (cC W)] 0=tx (cC W) from rfl,←lF,DL (by omega) (by omega),aJ]
 simp only[Bool.not_true,cond_false]
 rw[xJ hc hW (by omega),aJ,wX (by rw[List.length_replicate];omega) (by omega),aJ,lF]
 unfold bg.j5
 rw[show cat (tx (cC (List.replicate (N-K) 0))) du=tx (cC (List.replicate (N-K) 0)++[10]) from rfl,gF,aF (by rw[cK,show du.size=1 from rfl];omega),aF (by rw[cK,cK];simp;omega),bT (by omega)]
end
def cc(p m:Nat):List Int:=(List.range 9).map fun i=>if i=p then(m:Int)else 0
def bP(p m i:Nat):List UInt8:=(List.range i).flatMap fun i=>(if 0<i then [32]else [])++num ((if i=p then m else 0:Nat):Int)
theorem KT(k:Nat):bM.f (k+20) (cc 0 0) bU=some (tx (bP 0 0 9)):=by kernel_rfl
theorem KU(k:Nat):bM.f (k+20) (cc 0 1) bU=some (tx (bP 0 1 9)):=by kernel_rfl
theorem KV(k:Nat):bM.f (k+20) (cc 0 2) bU=some (tx (bP 0 2 9)):=by kernel_rfl
theorem KW(k:Nat):bM.f (k+20) (cc 0 3) bU=some (tx (bP 0 3 9)):=by kernel_rfl
theorem KX(k:Nat):bM.f (k+20) (cc 0 4) bU=some (tx (bP 0 4 9)):=by kernel_rfl
theorem KY(k:Nat):bM.f (k+20) (cc 0 5) bU=some (tx (bP 0 5 9)):=by kernel_rfl
theorem KZ(k:Nat):bM.f (k+20) (cc 0 6) bU=some (tx (bP 0 6 9)):=by kernel_rfl
theorem K0(k:Nat):bM.f (k+20) (cc 1 0) bU=some (tx (bP 1 0 9)):=by kernel_rfl
theorem K3(k:Nat):bM.f (k+20) (cc 1 1) bU=some (tx (bP 1 1 9)):=by kernel_rfl
theorem K4(k:Nat):bM.f (k+20) (cc 1 2) bU=some (tx (bP 1 2 9)):=by kernel_rfl
theorem K5(k:Nat):bM.f (k+20) (cc 1 3) bU=some (tx (bP 1 3 9)):=by kernel_rfl
theorem K6(k:Nat):bM.f (k+20) (cc 1 4) bU=some (tx (bP 1 4 9)):=by kernel_rfl
theorem K7(k:Nat):bM.f (k+20) (cc 1 5) bU=some (tx (bP 1 5 9)):=by kernel_rfl
theorem K8(k:Nat):bM.f (k+20) (cc 1 6) bU=some (tx (bP 1 6 9)):=by kernel_rfl
theorem K9(k:Nat):bM.f (k+20) (cc 2 0) bU=some (tx (bP 2 0 9)):=by kernel_rfl
theorem La(k:Nat):bM.f (k+20) (cc 2 1) bU=some (tx (bP 2 1 9)):=by kernel_rfl
theorem Lb(k:Nat):bM.f (k+20) (cc 2 2) bU=some (tx (bP 2 2 9)):=by kernel_rfl
theorem Lc(k:Nat):bM.f (k+20) (cc 2 3) bU=some (tx (bP 2 3 9)):=by kernel_rfl
theorem Ld(k:Nat):bM.f (k+20) (cc 2 4) bU=some (tx (bP 2 4 9)):=by kernel_rfl
theorem Le(k:Nat):bM.f (k+20) (cc 2 5) bU=some (tx (bP 2 5 9)):=by kernel_rfl
theorem Lf(k:Nat):bM.f (k+20) (cc 2 6) bU=some (tx (bP 2 6 9)):=by kernel_rfl
theorem Lg(k:Nat):bM.f (k+20) (cc 3 0) bU=some (tx (bP 3 0 9)):=by kernel_rfl
theorem Lh(k:Nat):bM.f (k+20) (cc 3 1) bU=some (tx (bP 3 1 9)):=by kernel_rfl
theorem Li(k:Nat):bM.f (k+20) (cc 3 2) bU=some (tx (bP 3 2 9)):=by kernel_rfl
theorem Lj(k:Nat):bM.f (k+20) (cc 3 3) bU=some (tx (bP 3 3 9)):=by kernel_rfl
theorem Ll(k:Nat):bM.f (k+20) (cc 3 4) bU=some (tx (bP 3 4 9)):=by kernel_rfl
theorem Lm(k:Nat):bM.f (k+20) (cc 3 5) bU=some (tx (bP 3 5 9)):=by kernel_rfl
theorem Ln(k:Nat):bM.f (k+20) (cc 3 6) bU=some (tx (bP 3 6 9)):=by kernel_rfl
theorem Lo(k:Nat):bM.f (k+20) (cc 4 0) bU=some (tx (bP 4 0 9)):=by kernel_rfl
theorem Lp(k:Nat):bM.f (k+20) (cc 4 1) bU=some (tx (bP 4 1 9)):=by kernel_rfl
theorem Lq(k:Nat):bM.f (k+20) (cc 4 2) bU=some (tx (bP 4 2 9)):=by kernel_rfl
theorem Lr(k:Nat):bM.f (k+20) (cc 4 3) bU=some (tx (bP 4 3 9)):=by kernel_rfl
theorem Ls(k:Nat):bM.f (k+20) (cc 4 4) bU=some (tx (bP 4 4 9)):=by kernel_rfl
theorem Lt(k:Nat):bM.f (k+20) (cc 4 5) bU=some (tx (bP 4 5 9)):=by kernel_rfl
theorem Lu(k:Nat):bM.f (k+20) (cc 4 6) bU=some (tx (bP 4 6 9)):=by kernel_rfl
theorem Lv(k:Nat):bM.f (k+20) (cc 5 0) bU=some (tx (bP 5 0 9)):=by kernel_rfl
theorem Lw(k:Nat):bM.f (k+20) (cc 5 1) bU=some (tx (bP 5 1 9)):=by kernel_rfl
theorem Lx(k:Nat):bM.f (k+20) (cc 5 2) bU=some (tx (bP 5 2 9)):=by kernel_rfl
theorem Ly(k:Nat):bM.f (k+20) (cc 5 3) bU=some (tx (bP 5 3 9)):=by kernel_rfl
theorem Lz(k:Nat):bM.f (k+20) (cc 5 4) bU=some (tx (bP 5 4 9)):=by kernel_rfl
theorem LA(k:Nat):bM.f (k+20) (cc 5 5) bU=some (tx (bP 5 5 9)):=by kernel_rfl
theorem LB(k:Nat):bM.f (k+20) (cc 5 6) bU=some (tx (bP 5 6 9)):=by kernel_rfl
theorem LC(k:Nat):bM.f (k+20) (cc 6 0) bU=some (tx (bP 6 0 9)):=by kernel_rfl
theorem LD(k:Nat):bM.f (k+20) (cc 6 1) bU=some (tx (bP 6 1 9)):=by kernel_rfl
theorem LF(k:Nat):bM.f (k+20) (cc 6 2) bU=some (tx (bP 6 2 9)):=by kernel_rfl
theorem LG(k:Nat):bM.f (k+20) (cc 6 3) bU=some (tx (bP 6 3 9)):=by kernel_rfl
theorem LH(k:Nat):bM.f (k+20) (cc 6 4) bU=some (tx (bP 6 4 9)):=by kernel_rfl
theorem LI(k:Nat):bM.f (k+20) (cc 6 5) bU=some (tx (bP 6 5 9)):=by kernel_rfl
theorem LJ(k:Nat):bM.f (k+20) (cc 6 6) bU=some (tx (bP 6 6 9)):=by kernel_rfl
theorem LK(k:Nat):bM.f (k+20) (cc 7 0) bU=some (tx (bP 7 0 9)):=by kernel_rfl
theorem LL(k:Nat):bM.f (k+20) (cc 7 1) bU=some (tx (bP 7 1 9)):=by kernel_rfl
theorem LM(k:Nat):bM.f (k+20) (cc 7 2) bU=some (tx (bP 7 2 9)):=by kernel_rfl
theorem LN(k:Nat):bM.f (k+20) (cc 7 3) bU=some (tx (bP 7 3 9)):=by kernel_rfl
theorem LP(k:Nat):bM.f (k+20) (cc 7 4) bU=some (tx (bP 7 4 9)):=by kernel_rfl
theorem LQ(k:Nat):bM.f (k+20) (cc 7 5) bU=some (tx (bP 7 5 9)):=by kernel_rfl
theorem LR(k:Nat):bM.f (k+20) (cc 7 6) bU=some (tx (bP 7 6 9)):=by kernel_rfl
theorem LU(k:Nat):bM.f (k+20) (cc 8 0) bU=some (tx (bP 8 0 9)):=by kernel_rfl
theorem LV(k:Nat):bM.f (k+20) (cc 8 1) bU=some (tx (bP 8 1 9)):=by kernel_rfl
theorem LW(k:Nat):bM.f (k+20) (cc 8 2) bU=some (tx (bP 8 2 9)):=by kernel_rfl
theorem LX(k:Nat):bM.f (k+20) (cc 8 3) bU=some (tx (bP 8 3 9)):=by kernel_rfl
theorem LY(k:Nat):bM.f (k+20) (cc 8 4) bU=some (tx (bP 8 4 9)):=by kernel_rfl
theorem LZ(k:Nat):bM.f (k+20) (cc 8 5) bU=some (tx (bP 8 5 9)):=by kernel_rfl
theorem L0(k:Nat):bM.f (k+20) (cc 8 6) bU=some (tx (bP 8 6 9)):=by kernel_rfl
theorem KS{p m:Nat}(hp:p<9)(hm:m<7)(k:Nat):bM.f (k+20) (cc p m) bU=some (tx (bP p m 9)):=by
 rcases(by omega:p=0∨p=1∨p=2∨p=3∨p=4∨p=5∨p=6∨p=7∨p=8)with rfl|rfl|rfl|rfl|rfl|rfl|rfl|rfl|rfl<;>rcases(by omega:m=0∨m=1∨m=2∨m=3∨m=4∨m=5∨m=6)with rfl|rfl|rfl|rfl|rfl|rfl|rfl
 ·exact KT k
 ·exact KU k
 ·exact KV k
 ·exact KW k
 ·exact KX k
 ·exact KY k
 ·exact KZ k
 ·exact K0 k
 ·exact K3 k
 ·exact K4 k
 ·exact K5 k
 ·exact K6 k
 ·exact K7 k
 ·exact K8 k
 ·exact K9 k
 ·exact La k
 ·exact Lb k
 ·exact Lc k
 ·exact Ld k
 ·exact Le k
 ·exact Lf k
 ·exact Lg k
 ·exact Lh k
 ·exact Li k
 ·exact Lj k
 ·exact Ll k
 ·exact Lm k
 ·exact Ln k
 ·exact Lo k
 ·exact Lp k
 ·exact Lq k
 ·exact Lr k
 ·exact Ls k
 ·exact Lt k
 ·exact Lu k
 ·exact Lv k
 ·exact Lw k
 ·exact Lx k
 ·exact Ly k
 ·exact Lz k
 ·exact LA k
 ·exact LB k
 ·exact LC k
 ·exact LD k
 ·exact LF k
 ·exact LG k
 ·exact LH k
 ·exact LI k
 ·exact LJ k
 ·exact LK k
 ·exact LL k
 ·exact LM k
 ·exact LN k
 ·exact LP k
 ·exact LQ k
 ·exact LR k
 ·exact LU k
 ·exact LV k
 ·exact LW k
 ·exact LX k
 ·exact LY k
 ·exact LZ k
 ·exact L0 k
theorem Fj(k:Nat):fQ.f (k+10)=some [(1,1),(1,2),(1,3),(2,1),(2,2),(2,3),(3,1),(3,2),(3,3)]:=by kernel_rfl
theorem Fs(k:Nat)(lines:List ByteArray)(o:ByteArray)(c1 c2 c3 d b i a0 a1 a2 a3 a4 a5 a6 a7 a8 a9 a10 a11 a12 a13 a14 a15:Int):bg.l1 (k+10) lines o c1 c2 c3 d b i [(1,1),(1,2),(1,3),(2,1),(2,2),(2,3),(3,1),(3,2),(3,3)] [a0,a1,a2,a3,a4,a5,a6,a7,a8,a9,a10,a11,a12,a13,a14,a15] [] 0=(bM.f k [a5,a6,a7,a9,a10,a11,a13,a14,a15] bU).bind fun x=>bg.j6 (bg.l0 k) k lines o c1 c2 c3 d b i [a0,a1,a2,a3,a4,a5,a6,a7,a8,a9,a10,a11,a12,a13,a14,a15] x:=by kernel_rfl
theorem Cu{p m:Nat}(hp:p<9)(hm:m<7):(bP p m 9).length=17:=by
 have h:((List.range 9).all fun p=>(List.range 7).all fun m=>Nat.beq (bP p m 9).length 17)=true:=by decide+kernel
 exact Nat.eq_of_beq_eq_true (List.all_eq_true.1 (List.all_eq_true.1 h p (List.mem_range.2 hp)) m (List.mem_range.2 hm))
theorem Pt{k i d b m:Nat}{lines:List ByteArray}{out:List UInt8}{c1 c2 c3 d0 b0:Int}(hd:P3 d)(hb:P3 b)(hm:m<7)(hl:at_ ByteArray.empty lines (i:Int)=tx kL)(hi:i<lines.length)(hi2:i<1000)(ho:out.length≤1000000):
 bg.l0 (k+31) lines (cnt d b m) (tx out) c1 c2 c3 d0 b0 (i:Int)=bg.l0 (k+20) lines (cnt d b m) (tx (out++(bP (3*(d-1)+(b-1)) m 9++[10]))) c1 c2 c3 d0 b0 ((i+1:Nat):Int):=by
 have hp:3*(d-1)+(b-1)<9:=by rcases hd with rfl|rfl|rfl<;>rcases hb with rfl|rfl|rfl<;>decide
 have hlen:=Cu hp hm
 have hw:(dN 32 kL).map tx=[tx [97,115,107,101,100]]:=rfl
 have hask:bg.l1 (k+20+10) lines (tx out) c1 c2 c3 d0 b0 (i:Int) [(1,1),(1,2),(1,3),(2,1),(2,2),(2,3),(3,1),(3,2),(3,3)] (cnt d b m) [] 0=(bM.f (k+20) (cc (3*(d-1)+(b-1)) m) bU).bind fun x=>bg.j6 (bg.l0 (k+20)) (k+20) lines (tx out) c1 c2 c3 d0 b0 (i:Int) (cnt d b m) x:=by
  rcases hd with rfl|rfl|rfl<;>rcases hb with rfl|rfl|rfl<;>exact Fs _ _ _ _ _ _ _ _ _ _ _ _ _ _ _ _ _ _ _ _ _ _ _ _ _
 rw[show k+31=(k+20+10)+1 by omega,bg.l0,bh (by omega),aF (by omega),hl,r8 (by decide),aJ,hw]
 rw[aF (by simp),aQ (fun e=>by exact gu (a:=[97,115,107,101,100]) (b:=[99,111,100,101]) (by decide) e),aQ (fun e=>by exact gu (a:=[97,115,107,101,100]) (b:=[112,105,99,107]) (by decide) e),aQ (fun e=>by exact gu (a:=[97,115,107,101,100]) (b:=[101,110,99,111,100,101]) (by decide) e),aQ (fun e=>by exact gu (a:=[97,115,107,101,100]) (b:=[100,101,99,111,100,101]) (by decide) e),aQ (fun e=>by exact gu (a:=[97,115,107,101,100]) (b:=[115,121,110,100]) (by decide) e),aQ (fun e=>by exact gu (a:=[97,115,107,101,100]) (b:=[115,101,110,100]) (by decide) e),aQ (fun e=>by exact gu (a:=[97,115,107,101,100]) (b:=[98,117,114,115,116]) (by decide) e),aQ (fun e=>by exact gu (a:=[97,115,107,101,100]) (b:=[102,108,97,103]) (by decide) e),aQ (fun e=>by exact gu (a:=[97,115,107,101,100]) (b:=[116,97,107,101]) (by decide) e),bh (by rfl),aF (by simp),aQ (by simp),Fj,aJ,hask,KS hp hm,aJ]
 unfold bg.j6
 rw[show cat (tx (bP (3*(d-1)+(b-1)) m 9)) du=tx (bP (3*(d-1)+(b-1)) m 9++[10]) from rfl,gF,aF (by rw[cK,show du.size=1 from rfl];omega),aF (by rw[cK,cK];simp;omega),bT (by omega)]
theorem oc{a l:List UInt8}(ha:∀b∈a,(b==10)=false)(hl:∀b∈l,(b==10)=false):∀b∈a++32::l,(b==10)=false:=by
 intro b hb
 rcases List.mem_append.1 hb with h|h
 ·exact ha b h
 ·rcases List.mem_cons.1 h with rfl|h
  ·rfl
  ·exact hl b h
theorem F6{l:List Int}(h:∀a∈l,(Lit.int .u8 a).wf=true):cR l=true:=by
 rw[cR,List.all_eq_true]
 intro a ha
 have:=h a ha
 simp[Lit.wf,IntKind.min,IntKind.max,IntKind.signed,IntKind.bits]at this
 exact qF.2 ⟨by omega,by omega⟩
end Go.Proofs.YtmhkpafkadijgaaGreatDoor.Gw
