/- A part of the proof of Rows.PlayAskedCardSaid; the conditions are that card's own. -/
import Derived.Test.YtmhkpafkadijgaaGreatDoorQ25
set_option linter.all false
set_option maxRecDepth 100000
namespace Go.Proofs.YtmhkpafkadijgaaGreatDoor.Gw
open Go Go.RowKit GF
structure Mx (R C:Nat) (M:List (List GF)):Prop where
 len:M.length=R
 row:∀r∈M,r.length=C
theorem Mx.at{R C i:Nat}{M:List (List GF)}(h:Mx R C M)(hi:i<R):(bE M i).length=C:=by
 have hi':i<M.length:=by rw[h.len];exact hi
 simp only[bE,bF,List.getElem?_eq_getElem hi']
 exact h.row _ (List.getElem_mem hi')
theorem Mx.set{R C:Nat}{M:List (List GF)}(h:Mx R C M)(i:Nat){r:List GF}(hr:r.length=C):Mx R C (M.set i r):=
 ⟨by rw[List.length_set,h.len],fun s hs=>(List.mem_or_eq_of_mem_set hs).elim (h.row s) fun e=>e▸hr⟩
theorem Mx.iO{R C:Nat}{M:List (List GF)}(h:Mx R C M):M.flatten.length=R*C:=by rw[sY M h.row,h.len]
theorem Mx.lT{R C i:Nat}{M:List (List GF)}(h:Mx R C M)(hi:i<R)(a:Nat)(r:List GF):bE (M.set i r) a=if a=i then r else bE M a:=Gw.lT M i a r (by rw[h.len];exact hi)
theorem vH{C:Nat}:∀(M:List (List GF))(i:Nat),(∀r∈M,r.length=C)→i<M.length→(M.flatten.take ((i+1)*C)).drop (i*C)=bE M i
 | [],i,_,h=>by simp at h
 |r::M,0,h,_=>by
  have hr:=h r List.mem_cons_self
  rw[List.flatten_cons,Nat.zero_add,Nat.one_mul,Nat.zero_mul,List.drop_zero,←hr,List.take_left];rfl
 |r::M,i+1,h,hi=>by
  have hr:=h r List.mem_cons_self
  rw[List.flatten_cons,show(i+1+1)*C=r.length+(i+1)*C by rw[hr,Nat.add_mul (i+1)];omega,show(i+1)*C=r.length+i*C by rw[hr,Nat.add_mul];omega,List.take_length_add_append,List.drop_length_add_append]
  have:=vH M i (fun s hs=>h s (List.mem_cons_of_mem _ hs)) (by simpa using hi)
  rw[show(i+1)*C=r.length+i*C by rw[hr,Nat.add_mul];omega]at this
  rw[this];rfl
theorem Ad{C:Nat}:∀(M:List (List GF))(i:Nat)(r:List GF),(∀s∈M,s.length=C)→i<M.length→M.flatten.take (i*C)++r++M.flatten.drop (i*C+C)=(M.set i r).flatten
 | [],i,_,_,h=>by simp at h
 |s::M,0,r,h,_=>by
  have hs:=h s List.mem_cons_self
  rw[List.flatten_cons,Nat.zero_mul,Nat.zero_add,←hs,List.drop_left,List.take_zero,List.set_cons_zero,List.flatten_cons,List.nil_append]
 |s::M,i+1,r,h,hi=>by
  have hs:=h s List.mem_cons_self
  rw[List.flatten_cons,show(i+1)*C+C=s.length+(i*C+C) by rw[hs,Nat.add_mul];omega,show(i+1)*C=s.length+i*C by rw[hs,Nat.add_mul];omega,List.take_length_add_append,List.drop_length_add_append,List.set_cons_succ,List.flatten_cons,←Ad M i r (fun u hu=>h u (List.mem_cons_of_mem _ hu)) (by simpa using hi)]
  simp
theorem Ab{C:Nat}:∀(M:List (List GF))(i j:Nat)(v:GF),(∀s∈M,s.length=C)→i<M.length→j<C→M.flatten.set (i*C+j) v=(M.set i ((bE M i).set j v)).flatten
 | [],i,_,_,_,h,_=>by simp at h
 |s::M,0,j,v,h,_,hj=>by
  have hs:=h s List.mem_cons_self
  rw[List.flatten_cons,Nat.zero_mul,Nat.zero_add,List.set_append_left _ _ (by omega)];rfl
 |s::M,i+1,j,v,h,hi,hj=>by
  have hs:=h s List.mem_cons_self
  rw[List.flatten_cons,show(i+1)*C+j=s.length+(i*C+j) by rw[hs,Nat.add_mul];omega,List.set_append_right _ _ (by omega),Nat.add_sub_cancel_left,Ab M i j v (fun u hu=>h u (List.mem_cons_of_mem _ hu)) (by simpa using hi) hj]
  rfl
theorem vG{R C i:Nat}{M:List (List GF)}(h:Mx R C M)(hi:i<R){r:List GF}(hr:r.length=C){n:Nat}(hn:n=C):cB (i*C) n (bi r) (bi M.flatten)=bi (M.set i r).flatten:=by
 have e:(bi r).take n=bi r:=List.take_of_length_le (by rw[bi_length,hr,hn];exact aI _)
 unfold cB
 rw[e,bi_length,hr,lh,nu,←gb,←gb,Ad M i r h.row (by rw[h.len];exact hi)]
def ints(L:List Nat):List Int:=L.map fun n:Nat=>(n:Int)
theorem iQ(L:List Nat):(ints L).length=L.length:=by simp[ints]
theorem ints_at{L:List Nat}{i:Nat}(h:i<L.length):at_ 0 (ints L) (i:Int)=((L.getD i 0:Nat):Int):=by simp[ints,at_,bF,h]
theorem wC{C:Nat}(h:C≤300):IntKind.i64.wrap ((C:Int)+0)=(C:Int):=by rw[ca (by omega) (by omega)];omega
theorem wM{i C:Nat}(hi:i≤301)(h:C≤300):IntKind.i64.wrap ((i:Int)*(C:Int))=((i*C:Nat):Int):=by
 have:=Nat.mul_le_mul hi h
 rw[←Int.natCast_mul,iB (by omega)]
theorem ki{R C i:Nat}{M:List (List GF)}(h:Mx R C M)(hi:i<R):(((bi M.flatten).take ((((i+1)*C:Nat):Int).toNat)).drop (((i*C:Nat):Int).toNat))=bi (bE M i):=by
 rw[Int.toNat_natCast,Int.toNat_natCast,lh,nu,vH M i h.row (by rw[h.len];exact hi)]
section
variable{R C:Nat}{cs:List Int}{M:List (List GF)}{L:List Nat}
theorem zK(hR:R≤300)(hC:C≤300)(h:Mx R C M):∀(d i k:Nat),i+d=R→
 bH.l0 (k+2*d+1) ((R:Int),(C:Int),bi M.flatten) (bi (M.take i).flatten) (i:Int)=bH.l2 k ((R:Int),(C:Int),bi M.flatten) (bi M.flatten) [] 0
 |0,i,k,hi=>by
  rw[bH.l0,aQ (by simp only[];omega),List.take_of_length_le (by rw[h.len];omega)];rfl
 |d+1,i,k,hi=>by
  have hiR:i<R:=by omega
  have hmul:(i+1)*C=i*C+C:=by rw[Nat.add_mul];omega
  have hle:(i+1)*C≤R*C:=Nat.mul_le_mul_right C (by omega)
  have hb:R*C≤300*300:=Nat.mul_le_mul hR hC
  have hf:(M.take i).flatten.length=i*C:=by
   rw[sY _ fun r hr=>h.row r (List.mem_of_mem_take hr),List.length_take,h.len,Nat.min_eq_left (by omega)]
  have hM':i<M.length:=by rw[h.len];exact hiR
  rw[show k+2*(d+1)+1=(k+2*d+1+1)+1 by omega,bH.l0]
  simp only[]
  rw[bh (by omega),wM (by omega) hC,bT (by omega),wM (by omega) hC,aF (by rw[bi_length,h.iO];omega),ki h hiR,aF (by rw[bi_length,bi_length,hf,h.at hiR];omega),bH.l1]
  simp only[]
  rw[wM (by omega) hC,bT (by omega),wM (by omega) hC,ki h hiR,←gb]
  have e:(M.take i).flatten++bE M i=(M.take (i+1)).flatten:=by
   rw[List.take_succ_eq_append_getElem hM',List.flatten_append]
   simp[bE,bF,hM']
  rw[e]
  exact zK hR hC h d (i+1) k (by omega)
theorem si(r q:List GF)(h:r.length=q.length):(List.zipWith (·+ ·) r q).length=r.length:=by simp[h]
def iC(r q:List GF)(j:Nat):List GF:=(List.zipWith (·+ ·) r q).take j++r.drop j
theorem Ri{r q:List GF}(h:r.length=q.length){j:Nat}(hj:j≤r.length):(iC r q j).length=r.length:=by
 simp[iC,h];omega
theorem Rh{r q:List GF}(h:r.length=q.length){j:Nat}(hj:j<r.length):(iC r q j).getD j 0=r.getD j 0:=by
 have hl:((List.zipWith (·+ ·) r q).take j).length=j:=by rw[List.length_take,si r q h];omega
 unfold iC
 rw[bF,List.getElem?_append_right (by omega),hl,Nat.sub_self,List.getElem?_drop,Nat.add_zero,←bF]
theorem Rj{r q:List GF}(h:r.length=q.length){j:Nat}(hj:j<r.length):(iC r q j).set j (r.getD j 0+q.getD j 0)=iC r q (j+1):=by
 have hl:((List.zipWith (·+ ·) r q).take j).length=j:=by rw[List.length_take,si r q h];omega
 have hz:j<(List.zipWith (·+ ·) r q).length:=by rw[si r q h];exact hj
 unfold iC
 rw[List.set_append_right _ _ (by omega),hl,Nat.sub_self,List.drop_eq_getElem_cons hj,List.set_cons_zero,List.take_succ_eq_append_getElem hz,List.append_assoc]
 congr 1
 rw[List.getElem_zipWith,dG hj,dG (by omega:j<q.length)];rfl
theorem zN(hR:R≤300)(hC:C≤300)(h:Mx R C M){a:Nat}(ha:a<R){q:List GF}(hq:q.length=C)(x2:Int):∀(d j k:Nat),j+d=C→
 bH.l5 (k+d+1) ((R:Int),(C:Int),cs) (ints L) x2 (a:Int) (bi q) (bi (M.set a (iC (bE M a) q j)).flatten) (j:Int)=bH.l4 k ((R:Int),(C:Int),cs) (ints L) x2 (bi (M.set a (List.zipWith (·+ ·) (bE M a) q)).flatten) ((a+1:Nat):Int)
 |0,j,k,hj=>by
  have e:iC (bE M a) q j=List.zipWith (·+ ·) (bE M a) q:=by
   unfold iC
   rw[List.take_of_length_le (by rw[si _ _ (by rw[h.at ha,hq]),h.at ha];omega),List.drop_of_length_le (by rw[h.at ha];omega),List.append_nil]
  rw[bH.l5,aQ (by rw[bi_length,hq];omega),e,bT (by omega)]
 |d+1,j,k,hj=>by
  have hrl:=h.at ha
  have hrq:(bE M a).length=q.length:=by rw[hrl,hq]
  have hz:=Ri hrq (j:=j) (by omega)
  have h':Mx R C (M.set a (iC (bE M a) q j)):=h.set a (by rw[hz,hrl])
  have hmul:(a+1)*C=a*C+C:=by rw[Nat.add_mul];omega
  have hle:(a+1)*C≤R*C:=Nat.mul_le_mul_right C (by omega)
  have hb:R*C≤300*300:=Nat.mul_le_mul hR hC
  have er:bE (M.set a (iC (bE M a) q j)) a=iC (bE M a) q j:=by rw[h.lT ha,if_pos rfl]
  rw[show k+(d+1)+1=(k+d+1)+1 by omega,bH.l5,bh (by rw[bi_length,hq];omega),aF (by rw[bi_length,hq];omega)]
  simp only[]
  rw[wC hC,wM (by omega) hC,bT (by omega),wM (by omega) hC,aF (by rw[bi_length,h'.iO];omega),ki h' ha,er,aF (by rw[bi_length,hz,hrl];omega),aF (by rw[bi_length,hz,hrl];omega),cI,cI,xor_val,Rh hrq (by omega),Int.toNat_natCast,Int.toNat_natCast,gY,Ab _ a j _ h'.row (by rw[h'.len];exact ha) (by omega),er,Rj hrq (by omega),List.set_set,bT (by omega)]
  exact zN hR hC h ha hq x2 d (j+1) k (by omega)
theorem It{n col i:Nat}{rn r:List GF}(hl:r.length=rn.length)(h0:r.getD col 0=0):jG n col rn i r=r:=by
 unfold jG
 split
 ·rfl
 ·refine vJ (by simp[hl]) fun c=>?_
  rw[Ef _ _ (by simp[hl]),pV,h0,GF.zero_mul,GF.add_zero]
theorem vC(hR:R≤300)(hC:C≤300){n:Nat}(hn:n=L.length)(hnR:n<R){col:Nat}(hcol:col<C){rn:List GF}:∀(d a k:Nat)(M:List (List GF)),a+d=R→Mx R C M→bE M n=rn→2000<k→
 ∃(k':Nat)(M':List (List GF)),k≤k'∧Mx R C M'∧(∀i<R,bE M' i=if a≤i then jG n col rn i (bE M i)else bE M i)∧
  ∀K,K=k+d*(C+4)+1→bH.l4 K ((R:Int),(C:Int),cs) (ints L) (col:Int) (bi M.flatten) (a:Int)=bH.j1 (bH.l2 k') k' ((R:Int),(C:Int),cs) (ints L) (col:Int) (bi M'.flatten)
 |0,a,k,M,ha,h,hrn,hk=>by
  refine⟨k,M,aI _,h,fun i hi=>by rw[if_neg (by omega)],fun K hK=>?_⟩
  rw[hK,Nat.zero_mul,Nat.add_zero,bH.l4,aQ (by simp only[];omega)]
 |d+1,a,k,M,ha,h,hrn,hk=>by
  have haR:a<R:=by omega
  have hrl:=h.at haR
  have hrnl:rn.length=C:=by rw[←hrn];exact h.at hnR
  have hmul:(a+1)*C=a*C+C:=by rw[Nat.add_mul];omega
  have hle:(a+1)*C≤R*C:=Nat.mul_le_mul_right C (by omega)
  have hmuln:(n+1)*C=n*C+C:=by rw[Nat.add_mul];omega
  have hlen:(n+1)*C≤R*C:=Nat.mul_le_mul_right C (by omega)
  have hb:R*C≤300*300:=Nat.mul_le_mul hR hC
  have hfuel:(d+1)*(C+4)=d*(C+4)+C+4:=by rw[Nat.add_mul];omega
  by_cases hs:a=n∨(bE M a).getD col 0=0
  ·
   have hst:jG n col rn a (bE M a)=bE M a:=by
    rcases hs with e|e
    ·unfold jG;rw[if_pos e]
    ·exact It (by rw[hrl,hrnl]) e
   obtain⟨k',M',h1,h2,h3,h4⟩:=vC hR hC hn hnR hcol d (a+1) (k+C+3) M (by omega) h hrn (by omega)
   refine⟨k',M',by omega,h2,fun i hi=>?_,fun K hK=>?_⟩
   ·rw[h3 i hi]
    by_cases e:i=a
    ·subst e;rw[if_neg (by omega),if_pos (aI _),hst]
    ·by_cases e2:a≤i
     ·rw[if_pos (by omega),if_pos e2]
     ·rw[if_neg (by omega),if_neg e2]
   ·rw[hK,show k+(d+1)*(C+4)+1=(k+C+3+d*(C+4)+1)+1 by omega,bH.l4]
    simp only[]
    rw[bh (by omega),wC hC,wM (by omega) hC,bT (by omega),wM (by omega) hC,aF (by rw[bi_length,h.iO];omega),ki h haR,aF (by rw[bi_length,hrl];omega),iQ]
    have fin:∀b,b=false→bH.j2 (bH.l4 (k+C+3+d*(C+4)+1)) (bH.l5 (k+C+3+d*(C+4)+1)) (k+C+3+d*(C+4)+1) ((R:Int),(C:Int),cs) (ints L) (col:Int) (bi M.flatten) (a:Int) b=bH.j1 (bH.l2 k') k' ((R:Int),(C:Int),cs) (ints L) (col:Int) (bi M'.flatten):=fun b hb=>by
     unfold bH.j2
     rw[hb,cond_false,bT (by omega)]
     exact h4 _ rfl
    by_cases e:a=n
    ·rw[cH (by omega)];exact fin _ rfl
    ·rw[kg (by omega),cI,hs.resolve_left e];exact fin _ rfl
  ·
   obtain⟨e1,e2⟩:=not_or.1 hs
   have hzl:(List.zipWith (·+ ·) (bE M a) (rn.map ((bE M a).getD col 0* ·))).length=C:=by rw[si _ _ (by rw[List.length_map,hrl,hrnl]),hrl]
   have hM2:=h.set a hzl
   have hrn2:bE (M.set a (List.zipWith (·+ ·) (bE M a) (rn.map ((bE M a).getD col 0* ·)))) n=rn:=by rw[h.lT haR,if_neg (fun e=>e1 e.symm),hrn]
   obtain⟨k',M',h1,h2,h3,h4⟩:=vC hR hC hn hnR hcol d (a+1) (k+2) _ (by omega) hM2 hrn2 (by omega)
   refine⟨k',M',by omega,h2,fun i hi=>?_,fun K hK=>?_⟩
   ·rw[h3 i hi,h.lT haR]
    by_cases e:i=a
    ·subst e;rw[if_neg (by omega),if_pos rfl,if_pos (aI _)];unfold jG;rw[if_neg e1]
    ·rw[if_neg e]
     by_cases e3:a≤i
     ·rw[if_pos (by omega),if_pos e3]
     ·rw[if_neg (by omega),if_neg e3]
   ·rw[hK,show k+(d+1)*(C+4)+1=((k+2+d*(C+4)+1)+C+1)+1 by omega,bH.l4]
    simp only[]
    rw[bh (by omega),wC hC,wM (by omega) hC,bT (by omega),wM (by omega) hC,aF (by rw[bi_length,h.iO];omega),ki h haR,aF (by rw[bi_length,hrl];omega),iQ,kg (by omega),cI]
    have hne:¬((((bE M a).getD col 0).1:Nat):Int)=0:=fun e=>e2 (GF.ext (by simpa using e))
    rw[decide_eq_false hne]
    unfold bH.j2
    simp only[Bool.not_false,cond_true]
    rw[iQ,←hn,wC hC,wM (i:=n) (by omega) hC,bT (by omega),wM (i:=n+1) (by omega) hC,aF (by rw[bi_length,h.iO];omega),ki h hnR,wM (i:=a) (by omega) hC,bT (by omega),wM (i:=a+1) (by omega) hC,ki h haR,cI,hrn,nG (by rw[hrnl];omega) (by rw[hrnl];omega),aJ]
    have hl5:=zN (cs:=cs) (L:=L) hR hC h haR (q:=rn.map ((bE M a).getD col 0* ·)) (by rw[List.length_map,hrnl]) (col:Int) C 0 (k+2+d*(C+4)+1) (by omega)
    have e0:M.set a (iC (bE M a) (rn.map ((bE M a).getD col 0* ·)) 0)=M:=by
     unfold iC
     rw[List.take_zero,List.drop_zero,List.nil_append]
     have haM:a<M.length:=by rw[h.len];exact haR
     simp[bE,bF,haM]
    rw[e0]at hl5
    rw[show(0:Int)=((0:Nat):Int) from rfl,hl5]
    exact h4 _ rfl
theorem zM(hR:R≤300)(hC:C≤300){col:Nat}(hcol:col<C)(h:Mx R C M)(hr:gE R C M L col):∀(d i k:Nat),i+d=R→L.length≤i→2000<k→(∀a,L.length≤a→a<i→(bE M a).getD col 0=0)→
 ∃(k':Nat)(M':List (List GF))(L':List Nat),k≤k'∧Mx R C M'∧gE R C M' L' (col+1)∧(∀z,iz R M' z↔iz R M z)∧
  ∀K,K=k+R*(C+4)+d+2→bH.l3 K ((R:Int),(C:Int),cs) (bi M.flatten) (ints L) (col:Int) (i:Int)=bH.l2 k' ((R:Int),(C:Int),cs) (bi M'.flatten) (ints L') ((col+1:Nat):Int)
 |0,i,k,hi,hl,hk,hz=>by
  refine⟨k+R*(C+4)+1,M,L,by omega,h,O4 hr fun a ha hla=>hz a hla (by omega),fun z=>Iff.rfl,fun K hK=>?_⟩
  rw[hK,bH.l3,aQ (by simp only[];omega),bT (by omega)]
 |d+1,i,k,hi,hl,hk,hz=>by
  have hiR:i<R:=by omega
  have hnR:L.length<R:=by omega
  have hrl:=h.at hiR
  have hmul:(i+1)*C=i*C+C:=by rw[Nat.add_mul];omega
  have hle:(i+1)*C≤R*C:=Nat.mul_le_mul_right C (by omega)
  have hmuln:(L.length+1)*C=L.length*C+C:=by rw[Nat.add_mul];omega
  have hlen:(L.length+1)*C≤R*C:=Nat.mul_le_mul_right C (by omega)
  have hb:R*C≤300*300:=Nat.mul_le_mul hR hC
  by_cases h0:(bE M i).getD col 0=0
  ·obtain⟨k',M',L',h1,h2,h3,h4,h5⟩:=zM hR hC hcol h hr d (i+1) k (by omega) (by omega) hk fun a hla ha=>by
    by_cases e:a=i
    ·rw[e];exact h0
    ·exact hz a hla (by omega)
   refine⟨k',M',L',h1,h2,h3,h4,fun K hK=>?_⟩
   rw[hK,show k+R*(C+4)+(d+1)+2=(k+R*(C+4)+d+2)+1 by omega,bH.l3]
   simp only[]
   rw[bh (by omega),wC hC,wM (by omega) hC,bT (by omega),wM (by omega) hC,aF (by rw[bi_length,h.iO];omega),ki h hiR,aF (by rw[bi_length,hrl];omega),cI,h0,cH (by rfl)]
   exact h5 _ rfl
  ·let rn:=(bE M i).map (inv ((bE M i).getD col 0)* ·)
   let M1:=M.set i (bE M L.length)
   let M2:=M1.set L.length (bE M i)
   let M3:=M2.set L.length rn
   have hrnl:rn.length=C:=by simp only[rn,List.length_map];exact hrl
   have x1:Mx R C M1:=h.set i (h.at hnR)
   have x2:Mx R C M2:=x1.set L.length hrl
   have x3:Mx R C M3:=x2.set L.length hrnl
   have g3:∀a,bE M3 a=if a=L.length then rn else if a=i then bE M L.length else bE M a:=fun a=>by
    simp only[M3];rw[x2.lT hnR]
    split
    ·rfl
    ·rename_i e;simp only[M2];rw[x1.lT hnR,if_neg e];simp only[M1];rw[h.lT hiR]
   have g2:bE M2 L.length=bE M i:=by simp only[M2];rw[x1.lT hnR,if_pos rfl]
   obtain⟨k',M',q1,q2,q3,q4⟩:=vC (cs:=cs) (L:=L) hR hC rfl hnR hcol (rn:=rn) R 0 (k+d+1) M3 (by omega) x3 (by rw[g3,if_pos rfl]) (by omega)
   obtain⟨r1,r2⟩:=O3 (m':=M') hr hcol hiR hl h0 q2.len fun a ha=>by
    rw[q3 a ha,if_pos (Nat.zero_le _),g3]
   refine⟨k',M',L++[col],by omega,q2,r1,r2,fun K hK=>?_⟩
   rw[hK,show k+R*(C+4)+(d+1)+2=(k+R*(C+4)+d+2)+1 by omega,bH.l3]
   simp only[]
   rw[bh (by omega),wC hC,wM (by omega) hC,bT (by omega),wM (by omega) hC,aF (by rw[bi_length,h.iO];omega),ki h hiR,aF (by rw[bi_length,hrl];omega),cI]
   have hne:¬((((bE M i).getD col 0).1:Nat):Int)=0:=fun e=>h0 (GF.ext (by simpa using e))
   rw[kg hne,aF (by rw[bi_length,h.iO];omega),iQ,wM (i:=L.length) (by omega) hC,bT (by omega),wM (i:=L.length+1) (by omega) hC,aF (by rw[bi_length,h.iO];omega)]
   have ecl:dM.f (bi (bE M i))=some (bi (bE M i)):=by unfold dM.f;rw[aF (by rw[bi_length,hrl];omega)]
   rw[ecl,aJ,ki h hnR]
   have hsub:∀n:Nat,(((n+1)*C:Nat):Int).toNat-(((n*C:Nat):Int)).toNat=C:=fun n=>by
    rw[Int.toNat_natCast,Int.toNat_natCast,Nat.add_mul];omega
   have htn:∀n:Nat,((n*C:Nat):Int).toNat=n*C:=fun n=>Int.toNat_natCast _
   rw[hsub,hsub,htn i,htn L.length,vG h hiR (h.at hnR) rfl,vG x1 hnR hrl rfl]
   have b2:=ki x2 hnR
   rw[htn L.length]at b2
   rw[aF (by rw[bi_length,x2.iO];omega),b2,g2,aF (by rw[bi_length,hrl];omega),cI,sX h0,aJ,aF (by rw[bi_length,x2.iO];omega),aF (by rw[bi_length,x2.iO];omega)]
   simp only[]
   rw[nG (by rw[hrl];omega) (by rw[hrl];omega),aJ,vG x2 hnR hrnl rfl,show(0:Int)=((0:Nat):Int) from rfl,q4 _ (by omega)]
   unfold bH.j1
   rw[aF (by rw[iQ];simp;omega),bT (by omega)]
   have e:ints L++[(col:Int)]=ints (L++[col]):=by simp[ints]
   rw[e]
theorem zL(hR:R≤300)(hC:C≤300):∀(d j k:Nat)(M:List (List GF))(L:List Nat),j+d=C→Mx R C M→gE R C M L j→3000+d*(R*(C+4)+R+3)<k→
 ∃(M':List (List GF))(L':List Nat),bH.l2 k ((R:Int),(C:Int),cs) (bi M.flatten) (ints L) (j:Int)=some (((R:Int),(C:Int),bi M'.flatten),ints L')∧Mx R C M'∧gE R C M' L' C∧∀z,iz R M' z↔iz R M z
 |d,_,0,_,_,_,_,_,h=>by omega
 |0,j,k+1,M,L,hj,h,hr,hk=>by
  obtain rfl:j=C:=by omega
  refine⟨M,L,?_,h,hr,fun z=>Iff.rfl⟩
  rw[bH.l2,aQ (by simp only[];omega)]
  simp only[]
  rw[wC hC]
 |d+1,j,k+1,M,L,hj,h,hr,hk=>by
  have hfuel:(d+1)*(R*(C+4)+R+3)=d*(R*(C+4)+R+3)+(R*(C+4)+R+3):=by rw[Nat.add_mul];omega
  have hLR:=hr.few
  obtain⟨k',M',L',h1,h2,h3,h4,h5⟩:=zM (cs:=cs) hR hC (show j<C by omega) h hr (R-L.length) L.length (k-(R*(C+4)+(R-L.length)+2)) (by omega) (aI _) (by omega) fun a ha hb=>by omega
  obtain⟨M2,L2,e1,e2,e3,e4⟩:=zL hR hC d (j+1) k' M' L' (by omega) h2 h3 (by omega)
  refine⟨M2,L2,?_,e2,e3,fun z=>(e4 z).trans (h4 z)⟩
  rw[bH.l2,bh (by simp only[];omega),iQ,h5 k (by omega)]
  exact e1
theorem O6(h:Mx R C M):gE R C M [] 0 where
 len:=h.len
 row i hi:=h.at hi
 few:=Nat.zero_le _
 lt a ha:=absurd ha (Nat.not_lt_zero _)
 one a ha:=absurd ha (Nat.not_lt_zero _)
 gQ i _ _ c hc:=absurd hc (Nat.not_lt_zero _)
 nd a ha:=absurd ha (Nat.not_lt_zero _)
theorem Iq(hR:R≤300)(hC:C≤300)(h:Mx R C M){k:Nat}(hk:5000+2*R+C*(R*(C+4)+R+3)<k):
 ∃(M':List (List GF))(L':List Nat),bH.f k ((R:Int),(C:Int),bi M.flatten)=some (((R:Int),(C:Int),bi M'.flatten),ints L')∧Mx R C M'∧gE R C M' L' C∧∀z,iz R M' z↔iz R M z:=by
 obtain⟨k,rfl⟩:∃k',k=k'+2*R+1:=⟨k-2*R-1,by omega⟩
 obtain⟨M',L',e1,e2,e3,e4⟩:=zL (cs:=bi M.flatten) hR hC C 0 k M [] (by omega) h (O6 h) (by omega)
 refine⟨M',L',?_,e2,e3,e4⟩
 unfold bH.f
 simp only[]
 rw[Md hR hC h.iO,aJ]
 simp only[Bool.not_true,cond_false]
 have:=zK hR hC h R 0 k (by omega)
 rw[List.take_zero]at this
 rw[show(0:Int)=((0:Nat):Int) from rfl]
 exact this.trans e1
theorem AU(L:List Nat)(hL:L.length<1000)(j:Nat):∀(d i k:Nat),i+d=L.length→d<k→(∀a,a<i→L.getD a 0≠j)→(∃a,a<L.length∧L.getD a 0=j∧fW.l0 k (ints L) (j:Int) (i:Int)=some (a:Int))∨((∀a,a<L.length→L.getD a 0≠j)∧fW.l0 k (ints L) (j:Int) (i:Int)=some (-1))
 |d,_,0,_,h,_=>by omega
 |0,i,k+1,hi,hk,hn=>by
  right
  refine⟨fun a ha=>hn a (by omega),?_⟩
  rw[fW.l0,aQ (by rw[iQ];omega)]
 |d+1,i,k+1,hi,hk,hn=>by
  by_cases e:L.getD i 0=j
  ·left
   refine⟨i,by omega,e,?_⟩
   rw[fW.l0,bh (by rw[iQ];omega),aF (by rw[iQ];omega),ints_at (by omega),bh (by omega)]
  ·have:=AU L hL j d (i+1) k (by omega) (by omega) fun a ha=>by
    by_cases ea:a=i
    ·rw[ea];exact e
    ·exact hn a (by omega)
   rw[fW.l0,bh (by rw[iQ];omega),aF (by rw[iQ];omega),ints_at (by omega),aQ (by omega),bT (by omega)]
   exact this
theorem Gv{L:List Nat}{k:Nat}(hL:L.length<1000)(hk:1000<k)(j:Nat):((∃a,a<L.length∧L.getD a 0=j)∧jb.f k (ints L) (j:Int)=some true)∨((∀a,a<L.length→L.getD a 0≠j)∧jb.f k (ints L) (j:Int)=some false):=by
 have h:=AU L hL j L.length 0 k (by omega) (by omega) fun a ha=>by omega
 unfold jb.f fW.f
 rcases h with⟨a,h1,h2,h3⟩|⟨h1,h2⟩
 ·left
  refine⟨⟨a,h1,h2⟩,?_⟩
  rw[show(0:Int)=((0:Nat):Int) from rfl,h3,aJ,decide_eq_true (by omega)]
 ·right
  refine⟨h1,?_⟩
  rw[show(0:Int)=((0:Nat):Int) from rfl,h2,aJ,decide_eq_false (by omega)]
theorem BN(hR:R≤300)(hC:C≤300)(h:Mx R C M)(hr:gE R C M L C){j:Nat}(hj:j<C)(acc:List (List Int))(hacc:acc.length<1000):∀(d i k:Nat),i+d=L.length→
 dF.l1 (k+d+1) (((R:Int),(C:Int),bi M.flatten),ints L) acc (j:Int) (bi (nv M L C j i)) (i:Int)=dF.l0 k (((R:Int),(C:Int),bi M.flatten),ints L) (acc++[bi (nv M L C j L.length)]) ((j+1:Nat):Int)
 |0,i,k,hi=>by
  obtain rfl:i=L.length:=by omega
  rw[dF.l1,aQ (by simp only[];rw[iQ];omega),aF (by omega),bT (by omega)]
 |d+1,i,k,hi=>by
  have hiL:i<L.length:=by omega
  have hLR:=hr.few
  have hlt:=hr.lt i hiL
  have hle:(i+1)*C≤R*C:=Nat.mul_le_mul_right C (by omega)
  have hmul:(i+1)*C=i*C+C:=by rw[Nat.add_mul];omega
  have hb:R*C≤300*300:=Nat.mul_le_mul hR hC
  have hcell:(bi M.flatten)=bi M.flatten:=rfl
  have hg:M.flatten.getD (i*C+j) 0=(bE M i).getD j 0:=by
   have:=vH M i h.row (by rw[h.len];omega)
   rw[←this]
   simp only[bF,List.getElem?_drop,List.getElem?_take]
   rw[if_pos (by omega)]
  rw[show k+(d+1)+1=(k+d+1)+1 by omega,dF.l1]
  simp only[]
  rw[bh (by rw[iQ];omega),aF (by rw[iQ];omega),wM (by omega) hC,show((i*C:Nat):Int)+(j:Int)=((i*C+j:Nat):Int) by omega,iB (by omega),aF (by rw[bi_length,h.iO];omega),ints_at hiL,aF (by rw[bi_length,rI];omega),cI,hg,Int.toNat_natCast,gY,bT (by omega)]
  exact BN hR hC h hr hj acc hacc d (i+1) k (by omega)
theorem wJ(hR:R≤300)(hC:C≤300)(h:Mx R C M)(hr:gE R C M L C):∀(d j k:Nat)(acc:List (List Int)),j+d=C→2000+d*(R+3)<k→acc.length+d<1000→
 ∃fs:List Nat,dF.l0 k (((R:Int),(C:Int),bi M.flatten),ints L) acc (j:Int)=some (acc++fs.map fun f=>bi (nv M L C f L.length))∧(∀f∈fs,f<C∧∀a<L.length,L.getD a 0≠f)∧(∀f,j≤f→f<C→(∀a<L.length,L.getD a 0≠f)→f∈fs)
 |d,_,0,_,_,h,_=>by omega
 |0,j,k+1,acc,hj,hk,ha=>by
  refine⟨[],?_,by simp,fun f h1 h2 _=>by omega⟩
  rw[dF.l0,aQ (by simp only[];omega)];simp
 |d+1,j,k+1,acc,hj,hk,ha=>by
  have hjC:j<C:=by omega
  have hLR:=hr.few
  have hfuel:(d+1)*(R+3)=d*(R+3)+R+3:=by rw[Nat.add_mul];omega
  rcases Gv (k:=k) (show L.length<1000 by omega) (by omega) j with⟨⟨a,ha1,ha2⟩,e⟩|⟨hfree,e⟩
  ·obtain⟨fs,f1,f2,f3⟩:=wJ hR hC h hr d (j+1) k acc (by omega) (by omega) (by omega)
   refine⟨fs,?_,f2,fun f h1 h2 h3=>?_⟩
   ·rw[dF.l0,bh (by simp only[];omega)]
    simp only[]
    rw[e,aJ,bT (by omega)]
    exact f1
   ·by_cases ef:f=j
    ·exact absurd (ef▸ha2) (h3 a ha1)
    ·exact f3 f (by omega) h2 h3
  ·obtain⟨k2,hk2⟩:∃k2,k=k2+L.length+1:=⟨k-L.length-1,by omega⟩
   obtain⟨fs,f1,f2,f3⟩:=wJ hR hC h hr d (j+1) k2 (acc++[bi (nv M L C j L.length)]) (by omega) (by omega) (by simp;omega)
   refine⟨j::fs,?_,fun f hf=>?_,fun f h1 h2 h3=>?_⟩
   ·rw[dF.l0,bh (by simp only[];omega)]
    simp only[]
    rw[e,aJ]
    simp only[cond_false]
    rw[aF (by omega),aF (by simp;omega),Int.toNat_natCast,Int.toNat_natCast,gZ]
    have e1:(bi (List.replicate C 0)).set j 1=bi (nv M L C j 0):=by rw[nv,←gY];rfl
    have:=BN hR hC h hr hjC acc (by omega) L.length 0 k2 (by omega)
    rw[e1,hk2,show(0:Int)=((0:Nat):Int) from rfl,this,f1]
    simp
   ·rcases List.mem_cons.1 hf with rfl|hf
    ·exact⟨hjC,hfree⟩
    ·exact f2 f hf
   ·by_cases ef:f=j
    ·rw[ef];exact List.mem_cons_self
    ·exact List.mem_cons_of_mem _ (f3 f (by omega) h2 h3)
theorem MC(hR:R≤300)(hC:C≤300)(h:Mx R C M){k:Nat}(hk:10000+2*R+C*(R*(C+4)+R+3)+C*(R+3)<k)(hz:∃z:List GF,z.length=C∧iz R M z∧∃c,c<C∧z.getD c 0≠0):
 ∃(z:List GF)(rest:List (List Int)),dF.f k ((R:Int),(C:Int),bi M.flatten)=some (bi z::rest)∧z.length=C∧iz R M z∧∃c,c<z.length∧z.getD c 0≠0:=by
 obtain⟨M',L,e1,e2,e3,e4⟩:=Iq hR hC h (k:=k) (by omega)
 obtain⟨z,z1,z2,c,c1,c2⟩:=hz
 obtain⟨j,hj,hfree⟩:=IT e3 z1 ((e4 z).2 z2) c c1 c2
 obtain⟨fs,f1,f2,f3⟩:=wJ hR hC e2 e3 C 0 k [] (by omega) (by omega) (by simp;omega)
 have hm:=f3 j (Nat.zero_le _) hj hfree
 match fs,hm,f1,f2 with
 |f::fs,_,f1,f2=>
  obtain⟨g1,g2⟩:=f2 f List.mem_cons_self
  refine⟨nv M' L C f L.length,fs.map fun f=>bi (nv M' L C f L.length),?_,rI _ _ _ _ _,(e4 _).1 (ME e3 g1 g2),f,by rw[rI];exact g1,by rw[BQ (R:=R) g1 g2 _ (aI _)];exact tX⟩
  unfold dF.f
  simp only[]
  rw[e1,aJ,show(0:Int)=((0:Nat):Int) from rfl,f1]
  simp
end
theorem Po(K t:Nat)(y:GF→GF)(xs:List GF):Mx xs.length (K+t+(t+1)) (iv K t y xs):=
 ⟨by simp[iv],fun r hr=>by
  obtain⟨x,_,rfl⟩:=List.mem_map.1 hr
  exact Pm K t x (y x)⟩
theorem PG{K t k:Nat}{y:GF→GF}{xs P:List GF}(hn:xs.Nodup)(hx:xs.length≤40)(hK:1≤K)(hP:P.length=K)(hu:gU y P xs≤t)(hlen:K+2*t≤xs.length)(hk:300000<k):fl.f k (bi xs) (bi (xs.map y)) (K:Int) (t:Int)=some (bi (aW P),true):=by
 obtain⟨k,rfl⟩:∃k',k=k'+xs.length+1:=⟨k-xs.length-1,by omega⟩
 have hm:=Po K t y xs
 have hb1:xs.length*(K+t+(t+1)+4)≤40*45:=Nat.mul_le_mul hx (by omega)
 have hb2:(K+t+(t+1))*(xs.length*(K+t+(t+1)+4)+xs.length+3)≤41*(40*45+43):=Nat.mul_le_mul (by omega) (by omega)
 have hb3:(K+t+(t+1))*(xs.length+3)≤41*43:=Nat.mul_le_mul (by omega) (by omega)
 obtain⟨z,rest,e1,e2,e3,e4⟩:=MC (k:=k) (by omega) (by omega) hm (by omega) (PH (y:=y) (l:=xs) hK hP hu)
 obtain⟨h1,h2⟩:=PI hn (by omega) hP hu hlen e2 e3 e4
 have hz1:(z.take (K+t)).length=K+t:=by rw[List.length_take];omega
 have hz2:(z.drop (K+t)).length=t+1:=by rw[List.length_drop];omega
 have hex:=IG (k:=k) (p:=z.take (K+t)) (d:=z.drop (K+t)) (P:=P) (by omega) (by omega) (by omega) h2 h1 (by omega)
 have wa:IntKind.i64.wrap ((K:Int)+(t:Int))=((K+t:Nat):Int):=by rw[ca (by omega) (by omega)];omega
 have hl0:=Dk (t:=t) hK (by omega) y xs (by omega) xs.length 0 k (by omega) (by omega)
 rw[List.take_zero]at hl0
 have ha0:at_ [] (bi z::rest) 0=bi z:=rfl
 unfold fl.f
 rw[show(0:Int)=((0:Nat):Int) from rfl]
 refine Eq.trans hl0 ?_
 unfold fl.j0
 rw[Mc hm.row (by have e:=hm.len;omega) (by have e:=hm.len;omega) (by omega) (by omega),aJ]
 simp only[Bool.not_true,cond_false]
 rw[hm.len,e1,aJ,aQ (by simp only[List.length_cons];omega),aF (by simp only[List.length_cons];omega),ha0,wa,aF (by rw[bi_length];omega),aF (by simp only[List.length_cons];omega),aF (by rw[bi_length];omega),List.take_length,Int.toNat_natCast,List.drop_zero,lh,nu,hex,aJ]
def dQ(xs:List GF):Prop:=∃(s:List Int)(lim:Int),s.length=xs.length∧(∀i:Nat,0<i→i<s.length→at_ 0 s (i:Int)≠at_ 0 s ((i-1:Nat):Int))∧dx.f (IntKind.u64.wrap (xs.length:Int))=some lim∧∀k,5000<k→bW.f k (bi xs) 0 (xs.length:Int) lim=some ((),s)
theorem z8(xs:List GF)(ys:List Int)(K:Int)(hx:xs.length<1000):∀(d i k:Nat),i+d=xs.length→
 cG.l0 (k+d+1) (bi xs) ys K (bi (xs.take i)) (i:Int)=(dx.f (IntKind.u64.wrap (xs.length:Int))).bind fun x=>(bW.f k (bi xs) 0 (xs.length:Int) x).bind fun s=>bif decide ((s.2.length:Int)<2)then cG.j1 k (bi xs) ys K s else cG.l1 k (bi xs) ys K s 1
 |0,i,k,hi=>by
  rw[cG.l0,aQ (by rw[bi_length];omega),List.take_of_length_le (by omega),bi_length]
 |d+1,i,k,hi=>by
  have hix:i<xs.length:=by omega
  rw[show k+(d+1)+1=(k+d+1)+1 by omega,cG.l0,bh (by rw[bi_length];omega),aF (by rw[bi_length];omega),aF (by rw[bi_length,List.length_take];simp;omega),bT (by omega),cI]
  have e:bi (xs.take i)++[(((xs.getD i 0).1:Nat):Int)]=bi (xs.take (i+1)):=by
   rw[List.take_succ_eq_append_getElem hix,gb,dG hix];rfl
  rw[e]
  exact z8 xs ys K hx d (i+1) k (by omega)
theorem Aa(xs ys:List Int)(K:Int){s:List Int}(hs:s.length<1000)(hd:∀i:Nat,0<i→i<s.length→at_ 0 s (i:Int)≠at_ 0 s ((i-1:Nat):Int)):∀(d i k:Nat),i+d=s.length→0<i→
 cG.l1 (k+d+1) xs ys K ((),s) (i:Int)=cG.j1 k xs ys K ((),s)
 |0,i,k,hi,h0=>by
  rw[cG.l1,aQ (by simp only[];omega)]
 |d+1,i,k,hi,h0=>by
  have w:IntKind.i64.wrap ((i:Int)-1)=((i-1:Nat):Int):=by rw[ca (by omega) (by omega)];omega
  rw[show k+(d+1)+1=(k+d+1)+1 by omega,cG.l1]
  simp only[]
  rw[bh (by omega),aF (by omega),w,aF (by omega),aQ (hd i h0 (by omega)),bT (by omega)]
  exact Aa xs ys K hs hd d (i+1) k (by omega) (by omega)
theorem IJ{K k:Nat}{y:GF→GF}{xs P:List GF}(hn:xs.Nodup)(hsrt:dQ xs)(hx:xs.length≤40)(hK:1≤K)(hKn:K≤xs.length)(hP:P.length=K)(hu:gU y P xs≤(xs.length-K)/2)(hk:400000<k):cG.f k (bi xs) (bi (xs.map y)) (K:Int)=some (bi (aW P),true):=by
 obtain⟨s,lim,s1,s2,s3,s4⟩:=hsrt
 obtain⟨k,rfl⟩:∃k',k=k'+xs.length+1:=⟨k-xs.length-1,by omega⟩
 have hlp:=gP P
 have ht:IntKind.i64.wrap (Int.tdiv (IntKind.i64.wrap (((bi xs).length:Int)-(K:Int))) 2)=(((xs.length-K)/2:Nat):Int):=by
  rw[bi_length,ca (x:=(xs.length:Int)-(K:Int)) (by omega) (by omega),show(xs.length:Int)-(K:Int)=((xs.length-K:Nat):Int) by omega,Int.tdiv_eq_ediv_of_nonneg (by omega),ca (by omega) (by omega)];omega
 have hj1:∀k2,300000<k2→cG.j1 k2 (bi xs) (bi (xs.map y)) (K:Int) ((),s)=some (bi (aW P),true):=fun k2 hk2=>by
  unfold cG.j1
  rw[ht]
  simp only[]
  rw[aQ (by rw[bi_length,s1];omega),PG hn hx hK hP hu (by omega) hk2,aJ]
  simp only[Bool.not_true,cond_false]
  rw[qP (by omega) (by omega),aJ,wH,aQ (by omega),Qn y (by omega) (by omega) (by omega),aJ]
  have hu2:gU y (aW P) xs=gU y P xs:=by
   unfold gU;congr 1;refine List.filter_congr fun x _=>by rw[fG]
  rw[hu2,aQ (by omega)]
 have hl0:=z8 xs (bi (xs.map y)) (K:Int) (by omega) xs.length 0 k (by omega)
 rw[List.take_zero,s3,aJ,s4 k (by omega),aJ]at hl0
 unfold cG.f
 rw[aQ (by omega),aQ (by rw[bi_length];omega),cH (by rw[bi_length,bi_length,List.length_map]),decide_eq_false (by rw[bi_length];omega)]
 unfold cG.j0
 rw[cond_false,show(0:Int)=((0:Nat):Int) from rfl]
 refine Eq.trans hl0 ?_
 simp only[]
 by_cases h2:(s.length:Int)<2
 ·rw[bh h2];exact hj1 k (by omega)
 ·rw[aQ h2]
  have:=Aa (bi xs) (bi (xs.map y)) (K:Int) (by omega) s2 (s.length-1) 1 (k-s.length) (by omega) (by omega)
  rw[show k-s.length+(s.length-1)+1=k by omega]at this
  rw[show(1:Int)=((1:Nat):Int) from rfl,this]
  exact hj1 _ (by omega)
theorem contains_nil{k:Nat}(hk:2<k)(j:Int):jb.f k [] j=some false:=by
 obtain⟨k,rfl⟩:=qz hk
 unfold jb.f fW.f
 rw[fW.l0,aQ (by simp)];rfl
theorem yC{N K B:Nat}{W:List GF}{y:GF→GF}(hN:N≤250)(hW:W.length=N)(hy:∀i<N,y (pow al i)=W.getD i 0*inv (wv al N B i)):∀(d i k:Nat),i+d=N→5<k→
 eY.l0 (k+d+1) (((N:Int),(K:Int),(B:Int)),bi W,[]) (bi (bl al N),bi (jy N B)) (bi ((bl al N).take i)) (bi (((bl al N).map y).take i)) (i:Int)=eY.j0 k (((N:Int),(K:Int),(B:Int)),bi W,[]) (bi (bl al N)) (bi ((bl al N).map y))
 |0,i,k,hi,hk=>by
  rw[eY.l0,aQ (by simp only[];rw[bi_length,dI];omega),List.take_of_length_le (by rw[dI];omega),List.take_of_length_le (by rw[List.length_map,dI];omega)]
 |d+1,i,k,hi,hk=>by
  have hiN:i<N:=by omega
  have hip:i<(bl al N).length:=by rw[dI];exact hiN
  rw[show k+(d+1)+1=(k+d+1)+1 by omega,eY.l0]
  simp only[]
  rw[bh (by rw[bi_length,dI];omega),aF (by rw[bi_length,dI];omega),contains_nil (by omega),aJ]
  simp only[cond_false]
  rw[aF (by rw[bi_length,hW];omega),aF (by rw[bi_length,qq];omega),cI,cI,QL hiN,II _ (D3 qA N B i),aJ]
  simp only[]
  rw[aF (by rw[bi_length,List.length_take,dI];simp;omega),aF (by rw[bi_length,List.length_take,List.length_map,dI];simp;omega),bT (by omega),cI,tZ al hiN,←hy i hiN]
  have e1:bi ((bl al N).take i)++[(((pow al i).1:Nat):Int)]=bi ((bl al N).take (i+1)):=by
   rw[List.take_succ_eq_append_getElem hip,gb]
   simp[bl,bi]
  have e2:bi (((bl al N).map y).take i)++[(((y (pow al i)).1:Nat):Int)]=bi (((bl al N).map y).take (i+1)):=by
   rw[List.take_succ_eq_append_getElem (by rw[List.length_map];exact hip),gb]
   simp[bl,bi]
  rw[e1,e2]
  exact yC hN hW hy d (i+1) k (by omega) hk
theorem Bu{N K B k:Nat}{m W:List GF}(hc:Cd N K B)(h:Wd N K B m W)(hk:20<k):jw.f k (((N:Int),(K:Int),(B:Int)),bi W,[])=some true:=by
 obtain⟨c1,c2,c3,c4⟩:=id hc
 unfold jw.f
 simp only
 rw[sW hc (by omega),aJ,bh rfl,bh (by rw[bi_length,h.len]),rZ hc]
 simp
theorem F1{N K B k:Nat}{m W:List GF}(hc:Cd N K B)(hN:N≤40)(hB:B≤255)(hsrt:dQ (bl al N))(h:Wd N K B m W)(hk:500000<k):jY.f k 3 ((N:Int),(K:Int),(B:Int)) (bi W) []=some (bi W,true):=by
 obtain⟨c1,c2,c3,c4⟩:=id hc
 have hnd:=Cv (N:=N) (by omega)
 obtain⟨P,hP,hv⟩:=QG (B:=B) qA h.len (show K≤N by omega) hnd fun j hj=>h.root _ (List.mem_map.2 ⟨j,List.mem_range.2 hj,rfl⟩)
 obtain⟨y,hy⟩:=AR hnd fun i=>W.getD i 0*inv (wv al N B i)
 have hy:∀i<N,y (pow al i)=W.getD i 0*inv (wv al N B i):=fun i hi=>by
  have:=hy i (by rw[dI];exact hi)
  rw[tZ al hi]at this;exact this
 have hu:gU y P (bl al N)=0:=by
  unfold gU
  rw[List.length_eq_zero_iff,List.filter_eq_nil_iff]
  intro x hx
  obtain⟨i,hi,rfl⟩:=List.mem_map.1 hx
  have hi:=List.mem_range.1 hi
  simp[hv i hi,hy i hi]
 have hfit:∀k2,400000<k2→cG.f k2 (bi (bl al N)) (bi ((bl al N).map y)) (K:Int)=some (bi (aW P),true):=fun k2 hk2=>
  IJ hnd hsrt (by rw[dI];omega) (by omega) (by rw[dI];omega) hP (by rw[hu];exact Nat.zero_le _) hk2
 have hlp:=gP P
 have hreb:(List.range N).map (fun i=>wv al N B i*pv (aW P) (pow al i))=W:=by
  apply List.ext_getElem (by simp[h.len])
  intro i h1 h2
  have hi:i<N:=by simpa using h1
  rw[List.getElem_map,List.getElem_range,fG,Qr qA hv i hi,dG (by rw[h.len];exact hi)]
 obtain⟨k2,hk2⟩:∃k',k=k'+N+1:=⟨k-N-1,by omega⟩
 have hdo:eY.f k (((N:Int),(K:Int),(B:Int)),bi W,[])=some (bi W,true):=by
  unfold eY.f
  simp only[]
  rw[Co hc (by omega) hB (by omega),aJ]
  have:=yC (K:=K) (by omega) h.len hy N 0 k2 (by omega) (by omega)
  rw[List.take_zero,List.take_zero]at this
  rw[hk2,show(0:Int)=((0:Nat):Int) from rfl]
  refine Eq.trans this ?_
  unfold eY.j0
  simp only[]
  rw[hfit k2 (by omega),aJ]
  simp only[Bool.not_true,cond_false]
  rw[O1 hc (by omega) hB (by omega) (by omega),aJ,hreb,uV hc h (by omega),aJ]
  rfl
 unfold jY.f
 rw[aQ (by decide),aQ (by decide),bh rfl]
 simp only
 rw[Bu hc h (by omega),aJ]
 simp only[Bool.not_true,cond_false]
 rw[hdo];rfl
theorem Gu(p:List GF)(j:Nat):jV.f (bi p) (j:Int)=some (((p.getD j 0).1:Nat):Int):=by
 unfold jV.f
 rw[aQ (by omega)]
 by_cases h:p.length≤j
 ·rw[bh (by rw[bi_length];omega)]
  simp[bF,List.getElem?_eq_none h]
 ·rw[aQ (by rw[bi_length];omega),aF (by rw[bi_length];omega),cI]
theorem J8{s k:Nat}(hs0:0<s)(hs:s≤254)(hk:4000<k):nH.f k (bi (List.replicate s 0)) 0=some ([1],[],true):=by
 obtain⟨k,rfl⟩:∃k',k=k'+1:=⟨k-1,by omega⟩
 have hl:(bi (List.replicate s 0)).length=s:=by rw[bi_length,List.length_replicate]
 have hn:cX.f (k+1) (bi (List.replicate s 0))=some []:=by rw[lK (by simp;omega) (by simp;omega),wI];rfl
 have hn1:∃q,cX.f (k+1) (List.replicate (s:Int).toNat (0:Int)++[1])=some q:=by
  rw[Int.toNat_natCast,gZ,show([1]:List Int)=bi [1] from rfl,←gb,lK (by simp;omega) (by simp;omega)];exact⟨_,rfl⟩
 obtain⟨q,hq⟩:=hn1
 have hrun:∀st:Int,jH.f (k+1) (List.replicate (s:Int).toNat (0:Int)++[1]) (bi (List.replicate s 0)) st=some ([],[1]):=fun st=>by
  unfold jH.f
  rw[hq,aJ,hn,aJ,jH.l0,show([]:List Int)=bi [] from rfl,qP (by simp;omega) (by simp),aJ,tP]
  rw[aQ (by unfold max2;simp only[List.length_nil];split<;>omega)]
 have hsc1:ky.f (k+1) 1 [1]=some [1]:=by
  unfold ky.f
  rw[show(1:Int)=(((1:GF).1:Nat):Int) from rfl,show([(((1:GF).1:Nat):Int)]:List Int)=bi [1] from rfl,nG (by simp) (by simp only[List.length_singleton];omega),aJ,lK (by simp only[List.length_map,List.length_singleton];omega) (by simp),aJ]
  rfl
 have hsc0:ky.f (k+1) 1 []=some []:=by
  unfold ky.f
  rw[show(1:Int)=(((1:GF).1:Nat):Int) from rfl,show([]:List Int)=bi [] from rfl,nG (by simp) (by simp only[List.length_nil];omega),aJ,lK (by simp only[List.length_map,List.length_nil];omega) (by simp),aJ]
  rfl
 have hcf:jV.f [1] 0=some 1:=by
  have:=Gu [1] 0
  exact this
 have hinv:fN.f 1=some (1,true):=inv1
 unfold nH.f
 rw[aQ (by decide),hl,aQ (by omega),aF (by omega),aF (by simp;omega),hrun,aJ]
 simp only[]
 rw[hcf,aJ,hinv,aJ]
 simp only[Bool.not_true,cond_false]
 rw[hsc1,aJ,hsc0,aJ]
theorem F0{N K B k:Nat}{m W:List GF}(hc:Cd N K B)(h:Wd N K B m W)(hk:5000<k):jY.f k 2 ((N:Int),(K:Int),(B:Int)) (bi W) []=some (bi W,true):=by
 obtain⟨c1,c2,c3,c4⟩:=id hc
 have hlack:kG.f k (((N:Int),(K:Int),(B:Int)),bi W,[])=some (bi (List.replicate (N-K) 0),[1],bi (List.replicate (N-K) 0)):=by
  unfold kG.f
  simp only
  rw[xJ hc h (by omega),aJ,Bp (by omega),aJ,Bz (by omega) (by omega)];rfl
 have hm:kH.f k (((N:Int),(K:Int),(B:Int)),bi W,[]) [] [1]=some (bi W,true):=by
  unfold kH.f
  simp only
  rw[Cg hc (by omega),aJ,DQ hc (by omega),aJ,Bv (by rw[h.len];omega) (by omega),aJ]
  simp only[Bool.not_true,cond_false]
  rw[uV hc h (by omega)];rfl
 have hdo:oJ.f k (((N:Int),(K:Int),(B:Int)),bi W,[])=some (bi W,true):=by
  unfold oJ.f
  simp only
  rw[hlack,aJ]
  simp only
  rw[show((([]:List Int).length:Nat):Int)=0 from rfl,J8 (by omega) (by omega) (by omega),aJ]
  simp only[Bool.not_true,cond_false]
  rw[BC (by omega),aJ,hm];rfl
 unfold jY.f
 rw[aQ (by decide),bh rfl]
 simp only
 rw[Bu hc h (by omega),aJ]
 simp only[Bool.not_true,cond_false]
 rw[hdo];rfl
def eF(s:List Int):Bool:=(List.range s.length).all fun i=>Nat.beq i 0||!(decide (at_ 0 s (i:Int)=at_ 0 s ((i-1:Nat):Int)))
theorem Fg{s:List Int}(h:eF s=true)(i:Nat)(h0:0<i)(hi:i<s.length):at_ 0 s (i:Int)≠at_ 0 s ((i-1:Nat):Int):=by
 have:=List.all_eq_true.1 h i (List.mem_range.2 hi)
 rw[Bool.or_eq_true]at this
 rcases this with h1|h1
 ·have:=Nat.eq_of_beq_eq_true h1;omega
 ·intro e;rw[e,decide_eq_true rfl]at h1;cases h1
theorem fj{N:Nat}{l s:List Int}{lim:Int}(e:bi (bl al N)=l)(h1:s.length=N)(h2:eF s=true)(h3:dx.f (IntKind.u64.wrap ((N:Nat):Int))=some lim)(h4:∀k,bW.f (k+5000) l 0 ((N:Nat):Int) lim=some ((),s)):dQ (bl al N):=by
 refine⟨s,lim,by rw[dI];exact h1,Fg h2,by rw[dI];exact h3,fun k hk=>?_⟩
 obtain⟨k,rfl⟩:∃k',k=k'+5000:=⟨k-5000,by omega⟩
 rw[e,dI]
 exact h4 k
theorem NQ:bi (bl al 2)=[1,2]:=by kernel_rfl
theorem EU:eF [1,2]=true:=by decide+kernel
theorem FN:dx.f (IntKind.u64.wrap ((2:Nat):Int))=some 2:=by kernel_rfl
theorem Np(k:Nat):bW.f (k+5000) [1,2] 0 ((2:Nat):Int) 2=some ((),[1,2]):=by kernel_rfl
theorem PY:dQ (bl al 2):=fj NQ (by decide) EU FN Np
theorem NU:bi (bl al 3)=[1,2,4]:=by kernel_rfl
theorem EY:eF [1,2,4]=true:=by decide+kernel
theorem FR:dx.f (IntKind.u64.wrap ((3:Nat):Int))=some 2:=by kernel_rfl
theorem Nt(k:Nat):bW.f (k+5000) [1,2,4] 0 ((3:Nat):Int) 2=some ((),[1,2,4]):=by kernel_rfl
theorem P2:dQ (bl al 3):=fj NU (by decide) EY FR Nt
theorem NV:bi (bl al 4)=[1,2,4,8]:=by kernel_rfl
theorem EZ:eF [1,2,4,8]=true:=by decide+kernel
theorem FT:dx.f (IntKind.u64.wrap ((4:Nat):Int))=some 3:=by kernel_rfl
theorem Nu(k:Nat):bW.f (k+5000) [1,2,4,8] 0 ((4:Nat):Int) 3=some ((),[1,2,4,8]):=by kernel_rfl
theorem P4:dQ (bl al 4):=fj NV (by decide) EZ FT Nu
theorem NW:bi (bl al 5)=[1,2,4,8,16]:=by kernel_rfl
theorem E0:eF [1,2,4,8,16]=true:=by decide+kernel
theorem FU:dx.f (IntKind.u64.wrap ((5:Nat):Int))=some 3:=by kernel_rfl
theorem Nv(k:Nat):bW.f (k+5000) [1,2,4,8,16] 0 ((5:Nat):Int) 3=some ((),[1,2,4,8,16]):=by kernel_rfl
theorem P5:dQ (bl al 5):=fj NW (by decide) E0 FU Nv
theorem NX:bi (bl al 6)=[1,2,4,8,16,32]:=by kernel_rfl
theorem Fb:eF [1,2,4,8,16,32]=true:=by decide+kernel
theorem FV:dx.f (IntKind.u64.wrap ((6:Nat):Int))=some 3:=by kernel_rfl
theorem Nw(k:Nat):bW.f (k+5000) [1,2,4,8,16,32] 0 ((6:Nat):Int) 3=some ((),[1,2,4,8,16,32]):=by kernel_rfl
theorem P6:dQ (bl al 6):=fj NX (by decide) Fb FV Nw
theorem NY:bi (bl al 7)=[1,2,4,8,16,32,64]:=by kernel_rfl
theorem Fc:eF [1,2,4,8,16,32,64]=true:=by decide+kernel
theorem FW:dx.f (IntKind.u64.wrap ((7:Nat):Int))=some 3:=by kernel_rfl
theorem Nx(k:Nat):bW.f (k+5000) [1,2,4,8,16,32,64] 0 ((7:Nat):Int) 3=some ((),[1,2,4,8,16,32,64]):=by kernel_rfl
theorem P7:dQ (bl al 7):=fj NY (by decide) Fc FW Nx
theorem NZ:bi (bl al 8)=[1,2,4,8,16,32,64,128]:=by kernel_rfl
theorem Fe:eF [1,2,4,8,16,32,64,128]=true:=by decide+kernel
theorem FX:dx.f (IntKind.u64.wrap ((8:Nat):Int))=some 4:=by kernel_rfl
theorem Ny(k:Nat):bW.f (k+5000) [1,2,4,8,16,32,64,128] 0 ((8:Nat):Int) 4=some ((),[1,2,4,8,16,32,64,128]):=by kernel_rfl
theorem P8:dQ (bl al 8):=fj NZ (by decide) Fe FX Ny
theorem N0:bi (bl al 9)=[1,2,4,8,16,32,64,128,29]:=by kernel_rfl
theorem Ff:eF [1,2,4,8,16,29,32,64,128]=true:=by decide+kernel
theorem FY:dx.f (IntKind.u64.wrap ((9:Nat):Int))=some 4:=by kernel_rfl
theorem Nz(k:Nat):bW.f (k+5000) [1,2,4,8,16,32,64,128,29] 0 ((9:Nat):Int) 4=some ((),[1,2,4,8,16,29,32,64,128]):=by kernel_rfl
theorem P9:dQ (bl al 9):=fj N0 (by decide) Ff FY Nz
theorem NF:bi (bl al 10)=[1,2,4,8,16,32,64,128,29,58]:=by kernel_rfl
theorem EI:eF [1,2,4,8,16,29,32,58,64,128]=true:=by decide+kernel
theorem FC:dx.f (IntKind.u64.wrap ((10:Nat):Int))=some 4:=by kernel_rfl
theorem Nd(k:Nat):bW.f (k+5000) [1,2,4,8,16,32,64,128,29,58] 0 ((10:Nat):Int) 4=some ((),[1,2,4,8,16,29,32,58,64,128]):=by kernel_rfl
theorem PN:dQ (bl al 10):=fj NF (by decide) EI FC Nd
theorem NG:bi (bl al 11)=[1,2,4,8,16,32,64,128,29,58,116]:=by kernel_rfl
theorem EJ:eF [1,2,4,8,16,29,32,58,64,116,128]=true:=by decide+kernel
theorem FE:dx.f (IntKind.u64.wrap ((11:Nat):Int))=some 4:=by kernel_rfl
theorem Nf(k:Nat):bW.f (k+5000) [1,2,4,8,16,32,64,128,29,58,116] 0 ((11:Nat):Int) 4=some ((),[1,2,4,8,16,29,32,58,64,116,128]):=by kernel_rfl
theorem PO:dQ (bl al 11):=fj NG (by decide) EJ FE Nf
theorem NH:bi (bl al 12)=[1,2,4,8,16,32,64,128,29,58,116,232]:=by kernel_rfl
theorem EK:eF [1,2,4,8,16,29,32,58,64,116,128,232]=true:=by decide+kernel
theorem FF:dx.f (IntKind.u64.wrap ((12:Nat):Int))=some 4:=by kernel_rfl
theorem Ng(k:Nat):bW.f (k+5000) [1,2,4,8,16,32,64,128,29,58,116,232] 0 ((12:Nat):Int) 4=some ((),[1,2,4,8,16,29,32,58,64,116,128,232]):=by kernel_rfl
theorem PQ:dQ (bl al 12):=fj NH (by decide) EK FF Ng
theorem NI:bi (bl al 13)=[1,2,4,8,16,32,64,128,29,58,116,232,205]:=by kernel_rfl
theorem EM:eF [1,2,4,8,16,29,32,58,64,116,128,205,232]=true:=by decide+kernel
theorem FG:dx.f (IntKind.u64.wrap ((13:Nat):Int))=some 4:=by kernel_rfl
theorem Nh(k:Nat):bW.f (k+5000) [1,2,4,8,16,32,64,128,29,58,116,232,205] 0 ((13:Nat):Int) 4=some ((),[1,2,4,8,16,29,32,58,64,116,128,205,232]):=by kernel_rfl
theorem PR:dQ (bl al 13):=fj NI (by decide) EM FG Nh
theorem NJ:bi (bl al 14)=[1,2,4,8,16,32,64,128,29,58,116,232,205,135]:=by kernel_rfl
theorem EN:eF [1,2,4,8,16,29,32,58,64,116,128,135,205,232]=true:=by decide+kernel
theorem FH:dx.f (IntKind.u64.wrap ((14:Nat):Int))=some 4:=by kernel_rfl
theorem Ni(k:Nat):bW.f (k+5000) [1,2,4,8,16,32,64,128,29,58,116,232,205,135] 0 ((14:Nat):Int) 4=some ((),[1,2,4,8,16,29,32,58,64,116,128,135,205,232]):=by kernel_rfl
theorem PS:dQ (bl al 14):=fj NJ (by decide) EN FH Ni
theorem NK:bi (bl al 15)=[1,2,4,8,16,32,64,128,29,58,116,232,205,135,19]:=by kernel_rfl
theorem EO:eF [1,2,4,8,16,19,29,32,58,64,116,128,135,205,232]=true:=by decide+kernel
theorem FI:dx.f (IntKind.u64.wrap ((15:Nat):Int))=some 4:=by kernel_rfl
theorem Nj(k:Nat):bW.f (k+5000) [1,2,4,8,16,32,64,128,29,58,116,232,205,135,19] 0 ((15:Nat):Int) 4=some ((),[1,2,4,8,16,19,29,32,58,64,116,128,135,205,232]):=by kernel_rfl
theorem PT:dQ (bl al 15):=fj NK (by decide) EO FI Nj
theorem NL:bi (bl al 16)=[1,2,4,8,16,32,64,128,29,58,116,232,205,135,19,38]:=by kernel_rfl
theorem EP:eF [1,2,4,8,16,19,29,32,38,58,64,116,128,135,205,232]=true:=by decide+kernel
theorem FJ:dx.f (IntKind.u64.wrap ((16:Nat):Int))=some 5:=by kernel_rfl
theorem Nk(k:Nat):bW.f (k+5000) [1,2,4,8,16,32,64,128,29,58,116,232,205,135,19,38] 0 ((16:Nat):Int) 5=some ((),[1,2,4,8,16,19,29,32,38,58,64,116,128,135,205,232]):=by kernel_rfl
theorem PU:dQ (bl al 16):=fj NL (by decide) EP FJ Nk
theorem NM:bi (bl al 17)=[1,2,4,8,16,32,64,128,29,58,116,232,205,135,19,38,76]:=by kernel_rfl
theorem ER:eF [1,2,4,8,16,19,29,32,38,58,64,76,116,128,135,205,232]=true:=by decide+kernel
theorem FK:dx.f (IntKind.u64.wrap ((17:Nat):Int))=some 5:=by kernel_rfl
theorem Nl(k:Nat):bW.f (k+5000) [1,2,4,8,16,32,64,128,29,58,116,232,205,135,19,38,76] 0 ((17:Nat):Int) 5=some ((),[1,2,4,8,16,19,29,32,38,58,64,76,116,128,135,205,232]):=by kernel_rfl
theorem PV:dQ (bl al 17):=fj NM (by decide) ER FK Nl
theorem NN:bi (bl al 18)=[1,2,4,8,16,32,64,128,29,58,116,232,205,135,19,38,76,152]:=by kernel_rfl
theorem ES:eF [1,2,4,8,16,19,29,32,38,58,64,76,116,128,135,152,205,232]=true:=by decide+kernel
theorem FL:dx.f (IntKind.u64.wrap ((18:Nat):Int))=some 5:=by kernel_rfl
theorem Nn(k:Nat):bW.f (k+5000) [1,2,4,8,16,32,64,128,29,58,116,232,205,135,19,38,76,152] 0 ((18:Nat):Int) 5=some ((),[1,2,4,8,16,19,29,32,38,58,64,76,116,128,135,152,205,232]):=by kernel_rfl
theorem PW:dQ (bl al 18):=fj NN (by decide) ES FL Nn
theorem NO:bi (bl al 19)=[1,2,4,8,16,32,64,128,29,58,116,232,205,135,19,38,76,152,45]:=by kernel_rfl
theorem ET:eF [1,2,4,8,16,19,29,32,38,45,58,64,76,116,128,135,152,205,232]=true:=by decide+kernel
theorem FM:dx.f (IntKind.u64.wrap ((19:Nat):Int))=some 5:=by kernel_rfl
theorem No(k:Nat):bW.f (k+5000) [1,2,4,8,16,32,64,128,29,58,116,232,205,135,19,38,76,152,45] 0 ((19:Nat):Int) 5=some ((),[1,2,4,8,16,19,29,32,38,45,58,64,76,116,128,135,152,205,232]):=by kernel_rfl
theorem PX:dQ (bl al 19):=fj NO (by decide) ET FM No
theorem NR:bi (bl al 20)=[1,2,4,8,16,32,64,128,29,58,116,232,205,135,19,38,76,152,45,90]:=by kernel_rfl
theorem EV:eF [1,2,4,8,16,19,29,32,38,45,58,64,76,90,116,128,135,152,205,232]=true:=by decide+kernel
theorem FO:dx.f (IntKind.u64.wrap ((20:Nat):Int))=some 5:=by kernel_rfl
theorem Nq(k:Nat):bW.f (k+5000) [1,2,4,8,16,32,64,128,29,58,116,232,205,135,19,38,76,152,45,90] 0 ((20:Nat):Int) 5=some ((),[1,2,4,8,16,19,29,32,38,45,58,64,76,90,116,128,135,152,205,232]):=by kernel_rfl
theorem PZ:dQ (bl al 20):=fj NR (by decide) EV FO Nq
theorem NS:bi (bl al 21)=[1,2,4,8,16,32,64,128,29,58,116,232,205,135,19,38,76,152,45,90,180]:=by kernel_rfl
theorem EW:eF [1,2,4,8,16,19,29,32,38,45,58,64,76,90,116,128,135,152,180,205,232]=true:=by decide+kernel
theorem FP:dx.f (IntKind.u64.wrap ((21:Nat):Int))=some 5:=by kernel_rfl
theorem Nr(k:Nat):bW.f (k+5000) [1,2,4,8,16,32,64,128,29,58,116,232,205,135,19,38,76,152,45,90,180] 0 ((21:Nat):Int) 5=some ((),[1,2,4,8,16,19,29,32,38,45,58,64,76,90,116,128,135,152,180,205,232]):=by kernel_rfl
theorem P0:dQ (bl al 21):=fj NS (by decide) EW FP Nr
theorem NT:bi (bl al 22)=[1,2,4,8,16,32,64,128,29,58,116,232,205,135,19,38,76,152,45,90,180,117]:=by kernel_rfl
theorem EX:eF [1,2,4,8,16,19,29,32,38,45,58,64,76,90,116,117,128,135,152,180,205,232]=true:=by decide+kernel
theorem FQ:dx.f (IntKind.u64.wrap ((22:Nat):Int))=some 5:=by kernel_rfl
theorem Ns(k:Nat):bW.f (k+5000) [1,2,4,8,16,32,64,128,29,58,116,232,205,135,19,38,76,152,45,90,180,117] 0 ((22:Nat):Int) 5=some ((),[1,2,4,8,16,19,29,32,38,45,58,64,76,90,116,117,128,135,152,180,205,232]):=by kernel_rfl
theorem P1:dQ (bl al 22):=fj NT (by decide) EX FQ Ns
theorem Qa{N:Nat}(h2:2≤N)(h:N≤22):dQ (bl al N):=by
 rcases(by omega:N=2∨N=3∨N=4∨N=5∨N=6∨N=7∨N=8∨N=9∨N=10∨N=11∨N=12∨N=13∨N=14∨N=15∨N=16∨N=17∨N=18∨N=19∨N=20∨N=21∨N=22)with rfl|rfl|rfl|rfl|rfl|rfl|rfl|rfl|rfl|rfl|rfl|rfl|rfl|rfl|rfl|rfl|rfl|rfl|rfl|rfl|rfl
 ·exact PY
 ·exact P2
 ·exact P4
 ·exact P5
 ·exact P6
 ·exact P7
 ·exact P8
 ·exact P9
 ·exact PN
 ·exact PO
 ·exact PQ
 ·exact PR
 ·exact PS
 ·exact PT
 ·exact PU
 ·exact PV
 ·exact PW
 ·exact PX
 ·exact PZ
 ·exact P0
 ·exact P1
end Go.Proofs.YtmhkpafkadijgaaGreatDoor.Gw
