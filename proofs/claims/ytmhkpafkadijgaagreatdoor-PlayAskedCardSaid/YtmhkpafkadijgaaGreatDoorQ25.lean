/- A part of the proof of Rows.PlayAskedCardSaid; the conditions are that card's own. -/
import Derived.Test.YtmhkpafkadijgaaGreatDoorQ24
set_option linter.all false
namespace Go.Proofs.YtmhkpafkadijgaaGreatDoor.Gw
open Go GF
theorem qz{k m:Nat}(h:m<k):∃k',k=k'+m:=⟨k-m,by omega⟩
theorem sW{N K B k:Nat}(hc:Cd N K B)(hk:10<k):dA.f k ((N:Int),(K:Int),(B:Int)) []=some 0:=by
 obtain⟨k,rfl⟩:=qz hk
 unfold dA.f
 simp only
 rw[jX hc];rfl
theorem Bp{k:Nat}(hk:10<k):kX.f k []=some [1]:=by
 obtain⟨k,rfl⟩:=qz hk
 rfl
theorem Cw(x:GF):pv [1] x=1:=by simp only[pv,GF.mul_zero,GF.add_zero]
theorem wI:∀n,aW (List.replicate n 0)=[]
 |0=>rfl
 |n+1=>by rw[List.replicate_succ',jm,if_pos rfl,wI n]
theorem BF{s k:Nat}(hs:s≤254)(hk:2000<k):cZ.f k (bi (List.replicate s 0)) (bi [1])=some []:=by
 obtain⟨L,h1,h2,h3⟩:=wj (p:=List.replicate s 0) (q:=[1]) (k:=k) (by simp) (by simp;omega) (by simp;omega)
 rw[h3]
 have e:L=List.replicate (s+1) 0:=ua (by rw[h1];simp) (by rw[h1];simp;omega) fun x=>by rw[h2,ic,ic,GF.zero_mul]
 rw[e,wI];rfl
theorem BC{k:Nat}(hk:2000<k):cZ.f k [1] [1]=some [1]:=by
 obtain⟨L,h1,h2,h3⟩:=wj (p:=[1]) (q:=[1]) (k:=k) (by simp) (by simp) (by simp;omega)
 rw[show([1]:List Int)=bi [1] from rfl,h3]
 have e:L=[1]++[0]:=ua (by rw[h1];rfl) (by rw[h1];simp) fun x=>by
  rw[h2,Cw,fS,Cw]
  simp only[pv,GF.mul_zero,GF.add_zero,GF.mul_one]
 rw[e,jm,if_pos rfl]
 rfl
theorem Bz{s k:Nat}(hs:s≤254)(hk:2000<k):oG.f k (bi (List.replicate s 0)) [1]=some (bi (List.replicate s 0)):=by
 unfold oG.f
 rw[bi_length,List.length_replicate,aF (by omega),show([1]:List Int)=bi [1] from rfl,BF hs hk,aJ,Int.toNat_natCast,gZ]
 simp[cB]
theorem Bt(n:Nat)(hn:n<1000):∀(d i k:Nat)(c:Int),i+d=n→10+d<k→iR.l0 k (bi (List.replicate n 0)) c (i:Int)=some ([1],0)
 |d,i,0,_,_,h=>by omega
 |0,i,k+1,c,hd,hk=>by
  rw[iR.l0,aQ (by rw[bi_length,List.length_replicate];omega)]
 |d+1,i,k+1,c,hd,hk=>by
  have e:(List.replicate n (0:GF)).getD i 0=0:=by
   simp only[bF,List.getElem?_replicate];split<;>rfl
  have hs:jk.f k [1] 0 (bi (List.replicate n 0)) (i:Int)=some 0:=by
   obtain⟨k',rfl⟩:∃m,k=m+1:=⟨k-1,by omega⟩
   unfold jk.f
   rw[jk.l0,aQ (by omega)]
  rw[iR.l0,bh (by rw[bi_length,List.length_replicate];omega),aF (by rw[bi_length,List.length_replicate];omega),hs,aJ,cI,e,bh (by decide),bT (by omega)]
  exact Bt n hn d (i+1) k _ (by omega) (by omega)
theorem Mb{n k:Nat}(hn:n<1000)(hk:2000<k):iR.f k (bi (List.replicate n 0))=some ([1],0):=Bt n hn n 0 k 1 (by omega) (by omega)
theorem Cf{N K B:Nat}(hN:N≤255):∀(d i k:Nat),i+d=N→10+5*d<k→cE.l1 k ((N:Int),(K:Int),(B:Int)) [1] [1] [] (i:Int)=some []
 |d,i,0,_,h=>by omega
 |0,i,k+1,hd,hk=>by rw[cE.l1,aQ (by simp only;omega)]
 |d+1,i,k+1,hd,hk=>by
  obtain⟨k',rfl⟩:∃m,k=m+2:=⟨k-2,by omega⟩
  rw[cE.l1,bh (by simp only;omega),cE.l2,bh (by simp),aF (by simp)]
  rw[show IntKind.i64.wrap ((0:Int)+1)=1 by decide,cE.l2,aQ (by simp)]
  unfold cE.j1
  rw[show bits .xor .u8 0 (at_ 0 [1] 0)=1 by decide,aQ (by decide)]
  unfold cE.j2
  rw[show jJ.f [1] [1]=some [1] by decide,aJ,bT (by omega)]
  exact Cf hN d (i+1) k' (by omega) (by omega)
theorem Cg{N K B k:Nat}(hc:Cd N K B)(hk:3000<k):cE.f k ((N:Int),(K:Int),(B:Int)) [1]=some []:=by
 obtain⟨c1,c2,c3,c4⟩:=id hc
 obtain⟨k,rfl⟩:∃m,k=m+2:=⟨k-2,by omega⟩
 unfold cE.f
 simp only
 rw[jX hc,aJ,cH rfl,show dM.f [1]=some [1] by rfl,aJ,aF (by simp)]
 rw[cE.l0,bh (by simp),show IntKind.i64.wrap (-(0:Int))=((0:Nat):Int) by decide,wY (by decide),aJ,aF (by simp),show IntKind.i64.wrap ((0:Int)+1)=1 by decide,cE.l0,aQ (by simp)]
 exact Cf c3 N 0 k (by omega) (by omega)
theorem DQ{N K B k:Nat}(hc:Cd N K B)(hk:100<k):eu.f k ((N:Int),(K:Int),(B:Int)) [] [1] []=some ([],true):=by
 obtain⟨k,rfl⟩:=qz hk
 unfold eu.f
 simp only
 rw[jX hc];rfl
theorem Bv{k:Nat}{W:List GF}(hw:W.length<1000)(hk:100<k):fD.f k (bi W) [] []=some (bi W):=by
 obtain⟨k,rfl⟩:=qz hk
 unfold fD.f dM.f
 rw[aF (by rw[bi_length];omega)];rfl
theorem D2(W:List GF)(hw:W.length<1000)(e:List Int):∀(d i k:Nat),i+d=W.length→d<k→gG.l0 k (bi W) (bi W) e 0 (i:Int)=some 0
 |d,i,0,_,h=>by omega
 |d,i,k+1,hd,hk=>by
  have hm:(min2 ((bi W).length:Int) ((bi W).length:Int)).toNat=W.length:=by unfold min2;simp
  have hz:((bi W).take (min2 ((bi W).length:Int) ((bi W).length:Int)).toNat).drop 0=bi W:=by
   rw[hm,List.drop_zero,List.take_of_length_le (by rw[bi_length];omega)]
  rw[gG.l0,hz]
  cases d with
  |zero=>rw[aQ (by rw[bi_length];omega)]
  |succ d=>
   rw[bh (by rw[bi_length];omega),aF (by rw[bi_length];omega),aF (by rw[bi_length];omega),cH rfl,bT (by omega)]
   exact D2 W hw e d (i+1) k (by omega) (by omega)
theorem yt(W:List GF)(hw:W.length<1000):∀(d i k:Nat),i+d=W.length→d<k→hJ.l0 k (bi W) (bi W) [] (i:Int)=some []
 |d,i,0,_,h=>by omega
 |d,i,k+1,hd,hk=>by
  have hm:(min2 ((bi W).length:Int) ((bi W).length:Int)).toNat=W.length:=by unfold min2;simp
  have hz:((bi W).take (min2 ((bi W).length:Int) ((bi W).length:Int)).toNat).drop 0=bi W:=by
   rw[hm,List.drop_zero,List.take_of_length_le (by rw[bi_length];omega)]
  rw[hJ.l0,hz]
  cases d with
  |zero=>rw[aQ (by rw[bi_length];omega)]
  |succ d=>
   rw[bh (by rw[bi_length];omega),aF (by rw[bi_length];omega),aF (by rw[bi_length];omega),cH rfl,bT (by omega)]
   exact yt W hw d (i+1) k (by omega) (by omega)
theorem tI(a:Int):min2 a a=a:=by unfold min2;split<;>rfl
theorem uV{N K B k:Nat}{m W:List GF}(hc:Cd N K B)(h:Wd N K B m W)(hk:3000<k):lr.f k ((N:Int),(K:Int),(B:Int)) (bi W) [] (bi W)=some true:=by
 obtain⟨c1,c2,c3,c4⟩:=id hc
 have hw:gG.l0 k (bi W) (bi W) [] 0 0=some 0:=D2 W (by rw[h.len];omega) [] W.length 0 k (by omega) (by rw[h.len];omega)
 unfold lr.f
 simp only
 rw[cH (by rw[bi_length,h.len]),sW hc (by omega),aJ,cH rfl,JB hc h hk,aJ]
 unfold gG.f
 rw[tI,aF (by rw[bi_length];omega),hw,aJ]
 unfold oZ.f
 simp only
 rw[rZ hc,aJ,aQ (by omega),aQ (by simp),aQ (by simp),aQ (by simp),aQ (by simp),aJ,decide_eq_true (show IntKind.i64.wrap (IntKind.i64.wrap (2*0)+(([]:List Int).length:Int))≤((N-K:Nat):Int) from by rw[show IntKind.i64.wrap (IntKind.i64.wrap (2*0)+(([]:List Int).length:Int))=0 by decide];omega)]
 rfl
theorem FZ{N K B k:Nat}{m W:List GF}(hc:Cd N K B)(h:Wd N K B m W)(hk:4000<k):jY.f k 1 ((N:Int),(K:Int),(B:Int)) (bi W) []=some (bi W,true):=by
 obtain⟨c1,c2,c3,c4⟩:=id hc
 have hmay:jw.f k (((N:Int),(K:Int),(B:Int)),bi W,[])=some true:=by
  unfold jw.f
  simp only
  rw[sW hc (by omega),aJ,bh rfl,bh (by rw[bi_length,h.len]),rZ hc]
  simp
 have hlack:kG.f k (((N:Int),(K:Int),(B:Int)),bi W,[])=some (bi (List.replicate (N-K) 0),[1],bi (List.replicate (N-K) 0)):=by
  unfold kG.f
  simp only
  rw[xJ hc h (by omega),aJ,Bp (by omega),aJ,Bz (by omega) (by omega)];rfl
 have hz:((bi (List.replicate (N-K) 0)).take (bi (List.replicate (N-K) 0)).length).drop ((([]:List Int).length:Int).toNat)=bi (List.replicate (N-K) 0):=by
  rw[List.take_length];rfl
 have hev:ny.f k (bi (List.replicate (N-K) 0)) [1]=some []:=by
  unfold ny.f
  rw[show([1]:List Int)=bi [1] from rfl,BF (by omega) (by omega),aJ]
  unfold qf.f
  have e:max2 0 (min2 ((bi (List.replicate (N-K) 0)).length:Int) (([]:List Int).length:Int))=0:=by
   rw[bi_length];unfold max2 min2;simp
  rw[e,aF (by simp),show((([]:List Int).take (0:Int).toNat).drop 0)=bi [] from rfl,lK (by simp;omega) (by simp)];rfl
 have hm:kH.f k (((N:Int),(K:Int),(B:Int)),bi W,[]) [] [1]=some (bi W,true):=by
  unfold kH.f
  simp only
  rw[Cg hc (by omega),aJ,DQ hc (by omega),aJ,Bv (by rw[h.len];omega) (by omega),aJ]
  simp only[Bool.not_true,cond_false]
  rw[uV hc h (by omega)];rfl
 have hdo:oI.f k (((N:Int),(K:Int),(B:Int)),bi W,[])=some (bi W,true):=by
  unfold oI.f
  simp only
  rw[hlack,aJ]
  simp only
  rw[aF (by simp),hz,Mb (by omega) (by omega),aJ,BC (by omega),aJ,hev,aJ,hm];rfl
 unfold jY.f
 rw[bh rfl]
 simp only
 rw[hmay,aJ]
 simp only[Bool.not_true,cond_false]
 rw[hdo];rfl
theorem Me{N K B:Nat}{m W:List GF}(hc:Cd N K B)(h:Wd N K B m W):iK.f ((N:Int),(K:Int),(B:Int)) (bi W)=some (bi m,0):=by
 obtain⟨c1,c2,c3,c4⟩:=id hc
 unfold iK.f
 simp only
 rw[jX hc,aJ,cH rfl,cH (by rw[bi_length,h.len])]
 unfold iK.j0
 rw[cH rfl]
 simp only
 rw[rZ hc,aJ,aF (by rw[bi_length,h.len];omega),List.take_length,Int.toNat_natCast,nu,h.msg]
 unfold dM.f
 have:m.length≤255:=by rw[←h.msg,List.length_drop,h.len];omega
 rw[aF (by rw[bi_length];omega)];rfl
theorem Fo{N K B k:Nat}{m W:List GF}(hc:Cd N K B)(h:Wd N K B m W)(hk:3000<k):iG.f k ((N:Int),(K:Int),(B:Int)) (bi W) (bi W)=some ((bi W,bi m,[]),0):=by
 obtain⟨c1,c2,c3,c4⟩:=id hc
 have ha:hJ.l0 k (bi W) (bi W) [] 0=some []:=yt W (by rw[h.len];omega) W.length 0 k (by omega) (by rw[h.len];omega)
 unfold iG.f
 simp only
 rw[Me hc h,aJ,bh rfl,cH (by rw[bi_length,h.len])]
 unfold iG.j0
 rw[cH rfl]
 unfold dM.f hJ.f
 rw[aF (by rw[bi_length,h.len];omega),aJ,tI,aF (by rw[bi_length];omega),ha];rfl
end Go.Proofs.YtmhkpafkadijgaaGreatDoor.Gw
namespace Go.Proofs.YtmhkpafkadijgaaGreatDoor.Gw
open GF
theorem tu{a:GF}(h:a≠0):inv a≠0:=fun e=>by
 have:=gN h;rw[e,mul_zero]at this;exact absurd this (by decide)
theorem mN{a b:GF}(ha:a≠0)(hb:b≠0):a*b≠0:=fun h=>(mul_eq_zero h).elim ha hb
theorem mul_left{a b c:GF}(ha:a≠0)(h:a*b=a*c):b=c:=by
 have:=congrArg (inv a* ·) h
 simp only[←mul_assoc,mul_comm (inv a) a,gN ha,one_mul]at this;exact this
theorem inv_mul{a b:GF}(ha:a≠0)(hb:b≠0):inv (a*b)=inv a*inv b:=
 mul_left (mN ha hb) (by rw[gN (mN ha hb),show a*b*(inv a*inv b)=(a*inv a)*(b*inv b) by ac_rfl,gN ha,gN hb,one_mul])
theorem inv_inv{a:GF}(h:a≠0):inv (inv a)=a:=mul_left (tu h) (by rw[gN (tu h),mul_comm,gN h])
theorem inv_one:inv 1=1:=mul_left (a:=1) (by decide) (by rw[gN (by decide),one_mul])
theorem wZ(a:GF)(m n:Nat):pow (pow a m) n=pow a (m*n):=GF.ext (by rw[jW,jW,jW,kR a.2])
def lp(x:GF):List GF→GF
 | []=>1
 |y::t=>(if y=x then 1 else x+y)*lp x t
theorem tX:(1:GF)≠0:=by decide
theorem pU(x:GF):∀l,lp x l≠0
 | []=>tX
 |y::t=>by
  refine mN ?_ (pU x t)
  by_cases h:y=x
  ·rw[if_pos h];decide
  ·rw[if_neg h];exact fun e=>h (lB e).symm
theorem vZ{x y:GF}(t:List GF)(h:y≠x):lp x (y::t)=(x+y)*lp x t:=by rw[lp,if_neg h]
theorem Br(x:GF)(t:List GF):lp x (x::t)=lp x t:=by rw[lp,if_pos rfl,one_mul]
theorem wc(x a b:GF)(t:List GF):lp x (a::b::t)=lp x (b::a::t):=by simp only[lp];ac_rfl
def ss(full:List GF)(F:GF→GF):List GF→GF
 | []=>0
 |x::t=>F x*inv (lp x full)+ss full F t
theorem uD{f g:List GF}{F G:GF→GF}:∀(l:List GF),(∀x∈l,F x*inv (lp x f)=G x*inv (lp x g))→ss f F l=ss g G l
 | [],_=>rfl
 |a::t,h=>by rw[ss,ss,h a List.mem_cons_self,uD t fun x hx=>h x (List.mem_cons_of_mem _ hx)]
theorem xA(f:List GF)(F G:GF→GF):∀l:List GF,ss f (fun x=>F x+G x) l=ss f F l+ss f G l
 | []=>(add_zero 0).symm
 |a::t=>by rw[ss,ss,ss,xA f F G t,add_mul];ac_rfl
theorem xC(f:List GF)(c:GF)(F:GF→GF):∀l:List GF,ss f (fun x=>c*F x) l=c*ss f F l
 | []=>(mul_zero c).symm
 |a::t=>by rw[ss,ss,xC f c F t,mul_add];congr 1;ac_rfl
theorem xB{a:GF}{t:List GF}(h:a ∉ t)(G:GF→GF):ss (a::t) (fun x=>(x+a)*G x) (a::t)=ss t G t:=by
 rw[ss,eE,zero_mul,zero_mul,zero_add]
 refine uD t fun x hx=>?_
 have hne:a≠x:=fun e=>h (e▸hx)
 have h1:x+a≠0:=fun e=>hne (lB e).symm
 rw[vZ t hne,inv_mul h1 (pU x t),show(x+a)*G x*(inv (x+a)*inv (lp x t))=((x+a)*inv (x+a))*(G x*inv (lp x t)) by ac_rfl,gN h1,one_mul]
theorem Qb(F:GF→GF)(a b:GF)(t:List GF):ss (a::b::t) F (a::b::t)=ss (b::a::t) F (b::a::t):=by
 rw[ss,ss,ss,ss,uD (g:=b::a::t) (G:=F) t fun x _=>by rw[wc],wc a,wc b]
 ac_rfl
theorem xD:∀(n:Nat)(l:List GF),l.length=n→l.Nodup→ss l (fun _=>1) l=if n=1 then 1 else 0
 |0,l,h,_=>by obtain rfl:=List.eq_nil_of_length_eq_zero h;rfl
 |1,l,h,_=>by
  obtain⟨a,rfl⟩:=List.length_eq_one_iff.1 h
  rw[if_pos rfl,ss,Br,ss,lp,inv_one,one_mul,add_zero]
 |n+2,l,h,hn=>by
  match l,h,hn with
  |a::b::t,h,hn=>
   have h1:=List.nodup_cons.1 hn
   have h2:=List.nodup_cons.1 h1.2
   have hab:a≠b:=fun e=>h1.1 (e▸List.mem_cons_self)
   have hat:a ∉ t:=fun e=>h1.1 (List.mem_cons_of_mem _ e)
   have hs:b ∉ a::t:=fun e=>(List.mem_cons.1 e).elim (fun e=>hab e.symm) h2.1
   have ha:(a::t).Nodup:=List.nodup_cons.2 ⟨hat,h2.2⟩
   have hl:t.length=n:=by simpa using h
   have e1:=xB h1.1 fun _=>1
   have e2:=xB hs fun _=>1
   rw[xD (n+1) (b::t) (by simp[hl]) h1.2]at e1
   rw[xD (n+1) (a::t) (by simp[hl]) ha,←Qb]at e2
   have e3:=xA (a::b::t) (fun x=>(x+a)*1) (fun x=>(x+b)*1) (a::b::t)
   rw[e1,e2,eE]at e3
   have e4:(fun x:GF=>(x+a)*1+(x+b)*1)=fun x=>(a+b)*1:=by
    funext x
    rw[mul_one,mul_one,mul_one,show x+a+(x+b)=(x+(x+(a+b))) by ac_rfl,me]
   rw[e4,xC]at e3
   rw[if_neg (by omega)]
   rcases mul_eq_zero e3 with e|e
   ·exact absurd (lB e) hab
   ·exact e
theorem Dr(a:GF):∀(p:List GF)(n:Nat),0<n→p.length≤n+1→(gy a p).getD (n-1) 0=p.getD n 0
 | [],n,_,_=>by simp[gy]
 | [c],n,h,_=>by
  obtain⟨m,rfl⟩:∃m,n=m+1:=⟨n-1,by omega⟩
  simp[gy]
 |c::d::r,n,h,hl=>by
  obtain⟨m,rfl⟩:∃m,n=m+1:=⟨n-1,by omega⟩
  rw[gy,Nat.add_sub_cancel,List.getD_cons_succ]
  cases m with
  |zero=>
   have:r=[]:=List.eq_nil_of_length_eq_zero (by simp only[List.length_cons]at hl;omega)
   subst this
   simp only[List.getD_cons_zero,pv]
   rw[mul_zero,add_zero]
  |succ m=>
   have:=Dr a (d::r) (m+1) (by omega) (by simp at hl⊢;omega)
   rw[Nat.add_sub_cancel]at this
   rw[List.getD_cons_succ];exact this
theorem Dq:∀(l p:List GF),l.Nodup→l≠ []→p.length≤l.length→ss l (pv p) l=p.getD (l.length-1) 0
 | [],_,_,h,_=>absurd rfl h
 |a::t,p,hn,_,hl=>by
  have h1:=List.nodup_cons.1 hn
  have e:pv p=fun x=>pv p a*1+(x+a)*pv (gy a p) x:=by
   funext x;rw[mul_one];exact xI a x p
  rw[e,xA,xC,xB h1.1,xD _ _ rfl hn]
  cases t with
  |nil=>
   rw[show [a].length=1 from rfl,if_pos rfl,ss,add_zero,mul_one]
   match p,hl with
   | [],_=>rfl
   | [c],_=>simp[pv,mul_zero,add_zero]
  |cons b t=>
   rw[if_neg (by simp),mul_zero,zero_add,Dq (b::t) (gy a p) h1.2 (by simp) (by rw[xH];simp at hl⊢;omega)]
   have:=Dr a p (b::t).length (by simp) (by simp at hl⊢;omega)
   simpa using this
theorem AW(y:GF→GF):∀l:List GF,l.Nodup→∃p,p.length=l.length∧∀x∈l,pv p x=y x
 | [],_=>⟨[],rfl,by simp⟩
 |a::t,hn=>by
  have h1:=List.nodup_cons.1 hn
  obtain⟨q,hq,hv⟩:=AW (fun x=>(y x+y a)*inv (x+a)) t h1.2
  refine⟨(mulL a q).set 0 ((mulL a q).getD 0 0+y a),by simp[nZ,hq],fun x hx=>?_⟩
  rw[ub x _ _ 0 (by rw[nZ];omega),me,pow,one_mul,lI]
  rcases List.mem_cons.1 hx with rfl|hx
  ·rw[eE,zero_mul,zero_add]
  ·have hne:x+a≠0:=fun e=>h1.1 (by have:=lB e;exact this▸hx)
   rw[hv x hx,show(a+x)*((y x+y a)*inv (x+a))=((x+a)*inv (x+a))*(y x+y a) by rw[add_comm a x];ac_rfl,gN hne,one_mul,add_assoc,eE,add_zero]
theorem oh{a:GF}(h:a≠0):∀n,pow a n≠0
 |0=>tX
 |n+1=>mN (oh h n) h
theorem NB(x:GF)(j:Nat)(p:List GF):pv (List.replicate j 0++p) x=pow x j*pv p x:=by
 rw[fS,ic,zero_add,List.length_replicate]
theorem Aq{p q:List GF}(j:Nat):(p++q).getD (p.length+j) 0=q.getD j 0:=by
 simp[bF,List.getElem?_append_right]
theorem Cy{p:List GF}{d:Nat}(h:∀j,d≤j→p.getD j 0=0)(x:GF):pv (p.take d) x=pv p x:=by
 conv=>rhs;rw[←List.take_append_drop d p]
 have hz:∀l:List GF,(∀c∈l,c=0)→pv l x=0:=by
  intro l
  induction l with
  |nil=>intro _;rfl
  |cons c l ih=>intro hl;rw[pv,ih fun c hc=>hl c (List.mem_cons_of_mem _ hc),hl c List.mem_cons_self,mul_zero,add_zero]
 rw[fS,hz (p.drop d),mul_zero,add_zero]
 intro c hc
 obtain⟨i,hi,rfl⟩:=List.getElem_of_mem hc
 have:=h (d+i) (by omega)
 simp at hi
 rw[List.getElem_drop]
 simpa [bF,show d+i<p.length by omega] using this
theorem L6{l:List GF}(hn:l.Nodup){K:Nat}(y:GF→GF)(h:∀j,j<l.length-K→ss l (fun x=>pow x j*y x) l=0):∃p,p.length=min K l.length∧∀x∈l,pv p x=y x:=by
 obtain⟨p,hp,hv⟩:=AW y l hn
 by_cases h0:l=[]
 ·subst h0;exact⟨[],by simp,by simp⟩
 have hpos:0<l.length:=List.length_pos_iff.2 h0
 have hz:∀m d,d+m=l.length→K≤d→∀j,d≤j→p.getD j 0=0:=by
  intro m
  induction m with
  |zero=>intro d hd _ j hj;simp[bF,List.getElem?_eq_none (show p.length≤j by omega)]
  |succ m ih=>
   intro d hd hK j hj
   have ih:=ih (d+1) (by omega) (by omega)
   by_cases hjd:j=d
   ·subst hjd
    have e:=h m (by omega)
    have e2:ss l (fun x=>pow x m*y x) l=ss l (pv (List.replicate m 0++p.take (j+1))) l:=
     uD l fun x hx=>by rw[NB,Cy ih,hv x hx]
    rw[e2,Dq l _ hn h0 (by simp;omega),show l.length-1=(List.replicate m (0:GF)).length+j by simp;omega,Aq]at e
    simpa [bF,List.getElem?_take] using e
   ·exact ih j (by omega)
 by_cases hK:K≤l.length
 ·refine⟨p.take K,by simp[hp],fun x hx=>?_⟩
  rw[Cy (hz (l.length-K) K (by omega) (aI _)),hv x hx]
 ·exact⟨p,by rw[hp];omega,hv⟩
def pad:List GF→List GF→List GF
 | [],q=>q
 |a::p,[]=>a::p
 |a::p,b::q=>(a+b)::pad p q
theorem mU(x:GF):∀p q:List GF,pv (pad p q) x=pv p x+pv q x
 | [],q=>by rw[pad,pv,zero_add]
 |a::p,[]=>by rw[pad,pv,pv,add_zero]
 |a::p,b::q=>by rw[pad,pv,mU x p q,pv,pv,mul_add];ac_rfl
theorem og:∀p q:List GF,(pad p q).length=max p.length q.length
 | [],q=>by simp[pad]
 |a::p,[]=>by simp[pad]
 |a::p,b::q=>by rw[pad,List.length_cons,og p q,List.length_cons,List.length_cons];omega
theorem qe:∀(p q:List GF)(j:Nat),(pad p q).getD j 0=p.getD j 0+q.getD j 0
 | [],q,j=>by simp[pad,zero_add]
 |a::p,[],j=>by simp[pad,add_zero]
 |a::p,b::q,0=>by simp[pad]
 |a::p,b::q,j+1=>by simp only[pad,List.getD_cons_succ];exact qe p q j
def fH:List GF→List GF→List GF
 | [],_=> []
 |c::p,q=>pad (q.map (c* ·)) (0::fH p q)
theorem rP(x:GF):∀p q:List GF,pv (fH p q) x=pv p x*pv q x
 | [],q=>by rw[fH,pv,zero_mul]
 |c::p,q=>by
  rw[fH,mU,mX,pv,rP x p q,zero_add,pv,add_mul]
  congr 1;ac_rfl
theorem tY:∀p q:List GF,q≠ []→(fH p q).length+1≤p.length+q.length
 | [],q,h=>by have:=List.length_pos_iff.2 h;simp[fH];omega
 |c::p,q,h=>by
  have:=tY p q h
  have:=List.length_pos_iff.2 h
  rw[fH,og];simp;omega
theorem Ci:∀(p q:List GF)(m n:Nat),p.length=m+1→q.length=n+1→(fH p q).getD (m+n) 0=p.getD m 0*q.getD n 0
 | [],_,_,_,h,_=>by simp at h
 | [c],q,m,n,hp,hq=>by
  obtain rfl:m=0:=by simpa using hp.symm
  rw[fH,qe]
  rw[show(0::fH [] q).getD (0+n) 0=0 by cases n<;>simp[fH],add_zero]
  simp[bF,hq]
 |c::d::p,q,m,n,hp,hq=>by
  obtain⟨m,rfl⟩:∃k,m=k+1:=⟨m-1,by simp at hp;omega⟩
  rw[fH,qe,show m+1+n=(m+n)+1 by omega,List.getD_cons_succ,Ci (d::p) q m n (by simp at hp⊢;omega) hq,List.getD_cons_succ]
  rw[show(q.map (c* ·)).getD (m+n+1) 0=0 by simp[bF,List.getElem?_eq_none (show q.length≤m+n+1 by omega)],zero_add]
theorem pY{p:List GF}(h:aW p≠ []):(aW p).getD ((aW p).length-1) 0≠0:=by
 have hr:∀(n:Nat)(p:List GF),p.length=n→aW p≠ []→(aW p).getD ((aW p).length-1) 0≠0:=by
  intro n
  induction n with
  |zero=>intro p hp h;obtain rfl:=List.eq_nil_of_length_eq_zero hp;exact absurd tP h
  |succ n ih=>
   intro p hp h
   rcases List.eq_nil_or_concat p with rfl|⟨q,c,rfl⟩
   ·simp at hp
   ·rw[List.concat_eq_append]at h hp⊢
    rw[jm]at h⊢
    by_cases hc:c=0
    ·rw[if_pos hc]at h⊢;exact ih q (by simpa using hp) h
    ·rw[if_neg hc];simpa [bF] using hc
 exact hr _ p rfl h
theorem uX{p:List GF}(h:∀c∈p,c=0):aW p=[]:=by
 rcases Classical.em (aW p=[])with e|e
 ·exact e
 ·have h1:=pY e
  rw[jR]at h1
  by_cases hj:(aW p).length-1<p.length
  ·rw[bF,List.getElem?_eq_getElem hj]at h1
   exact absurd (h _ (List.getElem_mem hj)) h1
  ·rw[bF,List.getElem?_eq_none (by omega)]at h1
   exact absurd rfl h1
theorem sh{p:List GF}(hp:p.length≤256)(h:∀x,pv p x=0):∀c∈p,c=0:=
 rV sA p ym (by rw[yl];exact hp) fun x _=>h x
theorem MA{p q:List GF}(hp:p.length≤256)(hq:q.length≤256)(h:∀x,pv p x=pv q x):aW p=aW q:=by
 have hz:∀c∈pad p q,c=0:=sh (by rw[og];omega) fun x=>by rw[mU,h x,eE]
 have hg:∀j,p.getD j 0=q.getD j 0:=by
  intro j
  refine lB ?_
  rw[←qe]
  by_cases hj:j<(pad p q).length
  ·rw[bF,List.getElem?_eq_getElem hj];exact hz _ (List.getElem_mem hj)
  ·rw[bF,List.getElem?_eq_none (by omega)];rfl
 have hle:∀{p q:List GF},(∀j,p.getD j 0=q.getD j 0)→(aW p).length≤(aW q).length:=by
  intro p q hg
  by_cases e:aW p=[]
  ·rw[e];simp
  ·have h1:=pY e
   rw[jR,hg,←jR]at h1
   have hpos:=List.length_pos_iff.2 e
   by_cases hj:(aW p).length-1<(aW q).length
   ·omega
   ·rw[bF,List.getElem?_eq_none (by omega)]at h1
    exact absurd rfl h1
 have hl:=Nat.le_antisymm (hle hg) (hle fun j=>(hg j).symm)
 refine List.ext_getElem hl fun j h1 h2=>?_
 have:=hg j
 rw[←jR p,←jR q]at this
 simpa [bF,h1,h2] using this
theorem N4{p q r d P:List GF}{s:Nat}(hd:d.length=s+1)(hd0:d.getD s 0≠0)(hr:r.length≤s)(hq:q.length+s≤250)(hP:P.length+s≤250)(h:∀x,pv p x=pv q x*pv d x+pv r x)(hp:∀x,pv p x=pv P x*pv d x):(∀c∈r,c=0)∧aW q=aW P:=by
 have hu:aW (pad P q)=[]:=by
  rcases Classical.em (aW (pad P q)=[])with e|e
  ·exact e
  ·have hpos:=List.length_pos_iff.2 e
   have hlen:=gP (pad P q)
   rw[og]at hlen
   obtain⟨m,hm⟩:∃m,(aW (pad P q)).length=m+1:=⟨_,(Nat.succ_pred_eq_of_pos hpos).symm⟩
   have h1:=pY e
   rw[hm,Nat.add_sub_cancel]at h1
   have h2:=Ci (aW (pad P q)) d m s hm hd
   have h3:=tY (aW (pad P q)) d (by intro e;rw[e]at hd;simp at hd)
   have hz:∀c∈pad (fH (aW (pad P q)) d) r,c=0:=by
    refine sh (by rw[og];omega) fun x=>?_
    rw[mU,rP,fG,mU,add_mul,←hp x,h x,show pv q x*pv d x+pv r x+pv q x*pv d x+pv r x=(pv q x*pv d x+pv q x*pv d x)+(pv r x+pv r x) by ac_rfl,eE,eE,add_zero]
   have h4:(pad (fH (aW (pad P q)) d) r).getD (m+s) 0=0:=by
    by_cases hj:m+s<(pad (fH (aW (pad P q)) d) r).length
    ·rw[bF,List.getElem?_eq_getElem hj];exact hz _ (List.getElem_mem hj)
    ·rw[bF,List.getElem?_eq_none (by omega)];rfl
   rw[qe,h2,show r.getD (m+s) 0=0 by simp[bF,List.getElem?_eq_none (show r.length≤m+s by omega)],add_zero]at h4
   exact absurd h4 (mN h1 hd0)
 have hv:∀x,pv P x=pv q x:=fun x=>by
  have:pv (aW (pad P q)) x=0:=by rw[hu];rfl
  rw[fG,mU]at this
  exact lB this
 refine⟨sh (by omega) fun x=>?_,MA (by omega) (by omega) fun x=>(hv x).symm⟩
 have:=(h x).symm.trans (hp x)
 rw[hv x]at this
 have h5:=congrArg (pv q x*pv d x+ ·) this
 simp only[me,eE]at h5
 exact h5
theorem zZ{α:Type}(f:α→Bool):∀l:List α,(l.filter f).length+(l.filter fun x=>!f x).length=l.length
 | []=>rfl
 |a::t=>by
  have:=zZ f t
  cases h:f a<;>simp[List.filter_cons,h]<;>omega
theorem QC{l P Q0 Q1:List GF}{y:GF→GF}{t K:Nat}(hn:l.Nodup)(hP:P.length≤K)(h0:Q0.length≤K+t)(h1:Q1.length≤t+1)(h255:l.length≤255)(hb:(l.filter fun x=>!decide (pv P x=y x)).length≤t)(hl:K+2*t≤l.length)(h:∀x∈l,pv Q0 x+y x*pv Q1 x=0):∀x,pv Q0 x=pv P x*pv Q1 x:=by
 by_cases hQ:Q1=[]
 ·subst hQ
  have hz:=rV l Q0 hn (by omega) fun x hx=>by have:=h x hx;rw[pv,mul_zero,add_zero]at this;exact this
  intro x
  rw[pv,mul_zero,←fG,uX hz,pv]
 have hlen:=tY P Q1 hQ
 have hf:=zZ (fun x=>decide (pv P x=y x)) l
 have hz:∀c∈pad Q0 (fH P Q1),c=0:=by
  refine rV (l.filter fun x=>decide (pv P x=y x)) _ (hn.filter _) (by rw[og];omega) fun x hx=>?_
  obtain⟨hx1,hx2⟩:=List.mem_filter.1 hx
  rw[mU,rP,of_decide_eq_true hx2]
  exact h x hx1
 intro x
 have:pv (aW (pad Q0 (fH P Q1))) x=0:=by rw[uX hz];rfl
 rw[fG,mU,rP]at this
 exact lB this
def dot:List GF→List GF→GF
 |a::p,b::q=>a*b+dot p q
 |_,_=>0
theorem qQ(c:GF):∀p q:List GF,dot (p.map (c* ·)) q=c*dot p q
 | [],q=>by simp[dot,mul_zero]
 |a::p,[]=>by simp[dot,mul_zero]
 |a::p,b::q=>by simp only[List.map_cons,dot];rw[qQ c p q,mul_add];congr 1;ac_rfl
theorem za:∀p p' q:List GF,p.length=p'.length→dot (List.zipWith (·+ ·) p p') q=dot p q+dot p' q
 | [],[],q,_=>by simp[dot,add_zero]
 |a::p,b::p',[],_=>by simp[dot,add_zero]
 |a::p,b::p',c::q,h=>by simp only[List.zipWith_cons_cons,dot];rw[za p p' q (by simpa using h),add_mul];ac_rfl
 | [],_::_,_,h=>by simp at h
 |_::_,[],_,h=>by simp at h
theorem y4:∀p q p' q':List GF,p.length=q.length→dot (p++p') (q++q')=dot p q+dot p' q'
 | [],[],p',q',_=>by simp[dot,zero_add]
 |a::p,b::q,p',q',h=>by simp only[List.cons_append,dot];rw[y4 p q p' q' (by simpa using h)];ac_rfl
 | [],_::_,_,_,h=>by simp at h
 |_::_,[],_,_,h=>by simp at h
theorem y9:∀(r:List GF)(n:Nat),dot r (List.replicate n 0)=0
 | [],n=>by cases n<;>simp[dot,List.replicate_succ]
 |a::r,0=>by simp[dot]
 |a::r,n+1=>by rw[List.replicate_succ,dot,y9 r n,mul_zero,add_zero]
theorem y8:∀(r z:List GF),(∀c<r.length,r.getD c 0=0)→dot r z=0
 | [],z,_=>by cases z<;>simp[dot]
 |a::r,[],_=>by simp[dot]
 |a::r,b::z,h=>by
  have h0:a=0:=by simpa using h 0 (by simp)
  rw[dot,h0,zero_mul,zero_add]
  exact y8 r z fun c hc=>by simpa using h (c+1) (by simp;omega)
theorem y7:∀(r z:List GF)(c:Nat),r.length=z.length→(∀i<r.length,r.getD i 0=if i=c then 1 else 0)→dot r z=z.getD c 0
 | [],[],c,_,_=>by simp[dot]
 |a::r,b::z,0,hl,h=>by
  have h0:a=1:=by simpa using h 0 (by simp)
  rw[dot,h0,one_mul,y8 r z fun i hi=>by simpa using h (i+1) (by simp;omega)]
  simp[add_zero]
 |a::r,b::z,c+1,hl,h=>by
  have h0:a=0:=by simpa using h 0 (by simp)
  rw[dot,h0,zero_mul,zero_add,y7 r z c (by simpa using hl) fun i hi=>by simpa using h (i+1) (by simp;omega)]
  simp
 | [],_::_,_,h,_=>by simp at h
 |_::_,[],_,h,_=>by simp at h
theorem u6:∀(r x:List GF)(k:Nat)(v:GF),k<x.length→k<r.length→dot r (x.set k v)=dot r x+r.getD k 0*(x.getD k 0+v)
 | [],_,_,_,_,h=>by simp at h
 |_::_,[],_,_,h,_=>by simp at h
 |a::r,b::x,0,v,_,_=>by
  simp only[List.set_cons_zero,dot,List.getD_cons_zero]
  rw[mul_add,show a*b+dot r x+(a*b+a*v)=(a*b+(a*b+a*v))+dot r x by ac_rfl,me]
 |a::r,b::x,k+1,v,h,h'=>by
  simp only[List.set_cons_succ,dot,List.getD_cons_succ]
  rw[u6 r x k v (by simpa using h) (by simpa using h')];ac_rfl
theorem y5(x:GF):∀(p:List GF)(s:Nat),dot ((List.range' s p.length).map (pow x)) p=pow x s*pv p x
 | [],s=>by simp[dot,pv,mul_zero]
 |c::p,s=>by
  rw[List.length_cons,List.range'_succ,List.map_cons,dot,y5 x p (s+1),pv,mul_add,pow]
  congr 1;ac_rfl
abbrev bE(m:List (List GF))(i:Nat):List GF:=m.getD i []
def iz(R:Nat)(m:List (List GF))(z:List GF):Prop:=∀i<R,dot (bE m i) z=0
theorem lT(m:List (List GF))(i a:Nat)(r:List GF)(hi:i<m.length):bE (m.set i r) a=if a=i then r else bE m a:=by
 unfold bE
 by_cases h:a=i
 ·subst h;simp[bF,hi]
 ·simp[bF,List.getElem?_set,h,show ¬i=a from fun e=>h e.symm]
def jG(n col:Nat)(rn:List GF)(i:Nat)(r:List GF):List GF:=if i=n then r else List.zipWith (·+ ·) r (rn.map (r.getD col 0* ·))
structure gE (R C:Nat) (m:List (List GF)) (L:List Nat) (j:Nat):Prop where
 len:m.length=R
 row:∀i<R,(bE m i).length=C
 few:L.length≤R
 lt:∀a<L.length,L.getD a 0<j
 one:∀a<L.length,∀i<R,(bE m i).getD (L.getD a 0) 0=if i=a then 1 else 0
 gQ:∀i<R,L.length≤i→∀c<j,(bE m i).getD c 0=0
 nd:∀a<L.length,∀b<L.length,L.getD a 0=L.getD b 0→a=b
theorem O4{R C j:Nat}{m:List (List GF)}{L:List Nat}(h:gE R C m L j)(h0:∀i<R,L.length≤i→(bE m i).getD j 0=0):gE R C m L (j+1) where
 len:=h.len
 row:=h.row
 few:=h.few
 lt a ha:=Nat.lt_succ_of_lt (h.lt a ha)
 one:=h.one
 gQ i hi hl c hc:=by
  by_cases e:c=j
  ·rw[e];exact h0 i hi hl
  ·exact h.gQ i hi hl c (by omega)
 nd:=h.nd
theorem Ef(p q:List GF)(hl:p.length=q.length)(c:Nat):(List.zipWith (·+ ·) p q).getD c 0=p.getD c 0+q.getD c 0:=by
 simp only[bF,List.getElem?_zipWith]
 by_cases h:c<p.length
 ·simp[h,hl▸h]
 ·simp[List.getElem?_eq_none (show p.length≤c by omega),List.getElem?_eq_none (show q.length≤c by omega),add_zero]
theorem pV(a:GF)(p:List GF)(c:Nat):(p.map (a* ·)).getD c 0=a*p.getD c 0:=by
 simp only[bF,List.getElem?_map]
 cases p[c]? with
 |none=>simp[mul_zero]
 |some v=>simp
theorem Ir{n col i:Nat}{rn r:List GF}(hl:r.length=rn.length)(c:Nat):(jG n col rn i r).getD c 0=if i=n then r.getD c 0 else r.getD c 0+r.getD col 0*rn.getD c 0:=by
 unfold jG
 split
 ·rfl
 ·rw[Ef _ _ (by simp[hl]),pV]
theorem O3{R C j i:Nat}{m m':List (List GF)}{L:List Nat}(h:gE R C m L j)(hj:j<C)(hi:i<R)(hn:L.length≤i)(ha:(bE m i).getD j 0≠0)(hm:m'.length=R)(hrow:∀a<R,bE m' a=let r1:=if a=L.length then(bE m i).map (inv ((bE m i).getD j 0)* ·)else if a=i then bE m L.length else bE m a
 jG L.length j ((bE m i).map (inv ((bE m i).getD j 0)* ·)) a r1):
 gE R C m' (L++[j]) (j+1)∧∀z,iz R m' z↔iz R m z:=by
 let rn:=(bE m i).map (inv ((bE m i).getD j 0)* ·)
 let r1:Nat→List GF:=fun a=>if a=L.length then rn else if a=i then bE m L.length else bE m a
 have hnR:L.length<R:=by omega
 have hrnl:rn.length=C:=by simp only[rn,List.length_map];exact h.row i hi
 have hr1l:∀a<R,(r1 a).length=C:=fun a haR=>by
  simp only[r1];split
  ·exact hrnl
  ·split
   ·exact h.row _ hnR
   ·exact h.row _ haR
 have hrow:∀a<R,bE m' a=jG L.length j rn a (r1 a):=hrow
 have hrnj:rn.getD j 0=1:=by rw[pV,mul_comm,gN ha]
 have hget:∀a<R,∀c,(bE m' a).getD c 0=if a=L.length then rn.getD c 0 else(r1 a).getD c 0+(r1 a).getD j 0*rn.getD c 0:=fun a haR c=>by
  rw[hrow a haR,Ir (by rw[hr1l a haR,hrnl])]
  by_cases e:a=L.length
  ·rw[if_pos e,if_pos e];simp only[r1,if_pos e]
  ·rw[if_neg e,if_neg e]
 have hrn0:∀b<L.length,rn.getD (L.getD b 0) 0=0:=fun b hb=>by
  rw[pV,h.one b hb i hi,if_neg (by omega),mul_zero]
 have hrnlt:∀c<j,rn.getD c 0=0:=fun c hc=>by rw[pV,h.gQ i hi hn c hc,mul_zero]
 refine⟨⟨hm,fun a haR=>?_,by simp;omega,fun a haL=>?_,fun b hb a haR=>?_,fun a haR hal c hc=>?_,fun a haL b hbL e=>?_⟩,fun z=>?_⟩
 ·rw[hrow a haR];unfold jG;split
  ·exact hr1l a haR
  ·simp[hr1l a haR,hrnl]
 ·simp at haL
  by_cases e:a<L.length
  ·have:=h.lt a e
   rw[show(L++[j]).getD a 0=L.getD a 0 by simp[bF,List.getElem?_append_left e]];omega
  ·rw[show(L++[j]).getD a 0=j by simp[bF,show a=L.length by omega]];omega
 ·simp at hb
  rw[hget a haR]
  by_cases e:b<L.length
  ·rw[show(L++[j]).getD b 0=L.getD b 0 by simp[bF,List.getElem?_append_left e],hrn0 b e,mul_zero,add_zero]
   by_cases e2:a=L.length
   ·rw[if_pos e2,if_neg (by omega)]
   ·rw[if_neg e2];simp only[r1,if_neg e2]
    by_cases e3:a=i
    ·rw[if_pos e3,h.one b e _ hnR,if_neg (by omega),if_neg (by omega)]
    ·rw[if_neg e3,h.one b e a haR]
  ·rw[show(L++[j]).getD b 0=j by simp[bF,show b=L.length by omega],hrnj,mul_one,eE]
   by_cases e2:a=L.length
   ·rw[if_pos e2,if_pos (by omega)]
   ·rw[if_neg e2,if_neg (by omega)]
 ·simp at hal
  rw[hget a haR,if_neg (by omega)]
  by_cases e:c=j
  ·rw[e,hrnj,mul_one,eE]
  ·rw[hrnlt c (by omega),mul_zero,add_zero]
   simp only[r1,if_neg (show ¬a=L.length by omega)]
   by_cases e3:a=i
   ·rw[if_pos e3];exact h.gQ _ hnR (aI _) c (by omega)
   ·rw[if_neg e3];exact h.gQ a haR (by omega) c (by omega)
 ·simp at haL hbL
  have hg:∀a,a<L.length→(L++[j]).getD a 0=L.getD a 0:=fun a e=>by simp[bF,List.getElem?_append_left e]
  have hj':(L++[j]).getD L.length 0=j:=by simp[bF]
  by_cases e1:a<L.length<;>by_cases e2:b<L.length
  ·rw[hg a e1,hg b e2]at e;exact h.nd a e1 b e2 e
  ·rw[hg a e1,show b=L.length by omega,hj']at e;have:=h.lt a e1;omega
  ·rw[hg b e2,show a=L.length by omega,hj']at e;have:=h.lt b e2;omega
  ·omega
 ·have hd:∀a<R,dot (bE m' a) z=if a=L.length then inv ((bE m i).getD j 0)*dot (bE m i) z else dot (r1 a) z+(r1 a).getD j 0*(inv ((bE m i).getD j 0)*dot (bE m i) z):=fun a haR=>by
   rw[hrow a haR];unfold jG
   by_cases e:a=L.length
   ·rw[if_pos e,if_pos e];simp only[r1,if_pos e];rw[qQ]
   ·rw[if_neg e,if_neg e,za _ _ _ (by simp[hr1l a haR,hrnl]),qQ,qQ]
  constructor
  ·intro hs
   have h1:=hs _ hnR
   rw[hd _ hnR,if_pos rfl]at h1
   have h2:dot (bE m i) z=0:=(mul_eq_zero h1).resolve_left (tu ha)
   intro a haR
   by_cases e:a=i
   ·rw[e];exact h2
   by_cases e2:a=L.length
   ·
    have h3:=hs i hi
    rw[hd i hi,h2,mul_zero,mul_zero,add_zero,if_neg (fun x=>e (by omega))]at h3
    simp only[r1,if_neg (show ¬i=L.length from fun x=>e (by omega)),if_true]at h3
    rw[e2];exact h3
   ·have h3:=hs a haR
    rw[hd a haR,h2,mul_zero,mul_zero,add_zero,if_neg e2]at h3
    simp only[r1,if_neg e2,if_neg e]at h3
    exact h3
  ·intro hs a haR
   rw[hd a haR,hs i hi,mul_zero,mul_zero,add_zero]
   split
   ·rfl
   ·rename_i e2
    simp only[r1,if_neg e2]
    split
    ·exact hs _ hnR
    ·exact hs a haR
def nv(m:List (List GF))(L:List Nat)(C j:Nat):Nat→List GF
 |0=>(List.replicate C 0).set j 1
 |i+1=>(nv m L C j i).set (L.getD i 0) ((bE m i).getD j 0)
theorem rI(m:List (List GF))(L:List Nat)(C j:Nat):∀i,(nv m L C j i).length=C
 |0=>by simp[nv]
 |i+1=>by simp[nv,rI m L C j i]
theorem BP{R C j:Nat}{m:List (List GF)}{L:List Nat}(h:gE R C m L C):∀i≤L.length,∀b,i≤b→b<L.length→(∀a<L.length,L.getD a 0≠j)→(nv m L C j i).getD (L.getD b 0) 0=0
 |0,_,b,_,hb,hj=>by
  rw[nv]
  have:¬j=L.getD b 0:=fun e=>hj b hb e.symm
  simp[bF,List.getElem?_set]at this⊢
  simp[this,List.getElem?_replicate]
  split<;>rfl
 |i+1,hi,b,hib,hb,hj=>by
  rw[nv]
  have hne:¬L.getD i 0=L.getD b 0:=fun e=>by have:=h.nd i (by omega) b hb e;omega
  have ih:=BP h i (by omega) b (by omega) hb hj
  rw[bF,List.getElem?_set,if_neg hne,←bF];exact ih
theorem BR{R C j:Nat}{m:List (List GF)}{L:List Nat}(h:gE R C m L C)(hjC:j<C)(hj:∀a<L.length,L.getD a 0≠j):∀i≤L.length,∀a<R,dot (bE m a) (nv m L C j i)=if a<i then 0 else if a<L.length then(bE m a).getD j 0 else 0
 |0,_,a,haR=>by
  rw[nv,u6 _ _ _ _ (by simp;exact hjC) (by rw[h.row a haR];exact hjC),y9,zero_add,if_neg (Nat.not_lt_zero _)]
  rw[show(List.replicate C (0:GF)).getD j 0=0 by simp[bF,List.getElem?_replicate,hjC],zero_add,mul_one]
  split
  ·rfl
  ·exact h.gQ a haR (by omega) j hjC
 |i+1,hi,a,haR=>by
  have hlt:=h.lt i (by omega)
  rw[nv,u6 _ _ _ _ (by rw[rI];exact hlt) (by rw[h.row a haR];exact hlt),BR h hjC hj i (by omega) a haR,BP h i (by omega) i (aI _) (by omega) hj,zero_add,h.one i (by omega) a haR]
  by_cases e1:a<i
  ·rw[if_pos e1,if_neg (by omega),zero_mul,add_zero,if_pos (by omega)]
  ·rw[if_neg e1]
   by_cases e2:a=i
   ·rw[if_pos e2,if_pos (by omega),one_mul,if_pos (by omega),e2,eE]
   ·rw[if_neg e2,zero_mul,add_zero,if_neg (show ¬a<i+1 by omega)]
theorem ME{R C j:Nat}{m:List (List GF)}{L:List Nat}(h:gE R C m L C)(hjC:j<C)(hj:∀a<L.length,L.getD a 0≠j):iz R m (nv m L C j L.length):=fun a haR=>by
 rw[BR h hjC hj _ (aI _) a haR]
 split<;>rfl
theorem BQ{R C j:Nat}{m:List (List GF)}{L:List Nat}(hjC:j<C)(hj:∀a<L.length,L.getD a 0≠j):∀i≤L.length,(nv m L C j i).getD j 0=1
 |0,_=>by rw[nv];simp[bF,hjC]
 |i+1,hi=>by
  rw[nv,bF,List.getElem?_set,if_neg (hj i (by omega)),←bF]
  exact BQ (R:=R) hjC hj i (by omega)
theorem IT{R C:Nat}{m:List (List GF)}{L:List Nat}{z:List GF}(h:gE R C m L C)(hz:z.length=C)(hs:iz R m z)(c:Nat)(hc:c<C)(h0:z.getD c 0≠0):∃j<C,∀a<L.length,L.getD a 0≠j:=by
 refine Classical.byContradiction fun hn=>?_
 have hall:∀j<C,∃a,a<L.length∧L.getD a 0=j:=fun j hj=>Classical.byContradiction fun hx=>hn ⟨j,hj,fun a ha e=>hx ⟨a,ha,e⟩⟩
 obtain⟨a,ha,ea⟩:=hall c hc
 have haR:a<R:=by have:=h.few;omega
 have hd:=y7 (bE m a) z c (by rw[h.row a haR,hz]) fun i hi=>by
  rw[h.row a haR]at hi
  obtain⟨b,hb,eb⟩:=hall i hi
  rw[←eb,h.one b hb a haR,←ea]
  by_cases e:a=b
  ·rw[if_pos e,if_pos (by rw[e])]
  ·rw[if_neg e,if_neg fun x=>e (h.nd _ hb _ ha x).symm]
 rw[hs a haR]at hd
 exact h0 hd.symm
mutual
def dE:List GF→List GF
 | []=> []
 |c::p=>c::kM p
def kM:List GF→List GF
 | []=> []
 |_::p=>0::dE p
end
mutual
def pe(x:GF):List GF→GF
 | []=>0
 |c::p=>c+x*x*po x p
def po(x:GF):List GF→GF
 | []=>0
 |_::p=>pe x p
end
theorem Ca(x:GF):∀p:List GF,pv p x=pe x p+x*po x p
 | []=>by simp[pv,pe,po,mul_zero,add_zero]
 |c::p=>by
  rw[pv,Ca x p,pe,po,mul_add,←mul_assoc];ac_rfl
theorem ze(x:GF):∀p:List GF,pv (dE p) x=pe x p∧pv (kM p) x=x*po x p
 | []=>by simp[dE,kM,pv,pe,po,mul_zero]
 |c::p=>by
  obtain⟨h1,h2⟩:=ze x p
  rw[dE,kM,pv,pv,h1,h2,pe,po]
  exact⟨by rw[mul_assoc],by rw[zero_add]⟩
theorem GB(x:GF)(p:List GF):pv (dE p.tail) x=po x p:=by
 cases p with
 |nil=>rfl
 |cons c p=>rw[List.tail_cons,(ze x p).1,po]
theorem sJ:∀p:List GF,(dE p).length=p.length∧(kM p).length=p.length
 | []=>⟨rfl,rfl⟩
 |c::p=>by
  obtain⟨h1,h2⟩:=sJ p
  rw[dE,kM];simp[h1,h2]
theorem zd:∀(p:List GF)(j:Nat),(dE p).getD j 0=(if j%2=1 then 0 else p.getD j 0)∧(kM p).getD j 0=(if j%2=1 then p.getD j 0 else 0)
 | [],j=>by simp[dE,kM]
 |c::p,0=>by simp[dE,kM]
 |c::p,j+1=>by
  obtain⟨h1,h2⟩:=zd p j
  rw[dE,kM,List.getD_cons_succ,List.getD_cons_succ,List.getD_cons_succ,h1,h2]
  rcases Nat.mod_two_eq_zero_or_one j with h|h
  ·rw[if_neg (by omega),if_pos (by omega),if_neg (by omega),if_pos (by omega)];exact⟨rfl,rfl⟩
  ·rw[if_pos (by omega),if_neg (by omega),if_pos (by omega),if_neg (by omega)];exact⟨rfl,rfl⟩
theorem Cc(x:GF):∀p q:List GF,pe x (pad p q)=pe x p+pe x q∧po x (pad p q)=po x p+po x q
 | [],q=>by simp[pad,pe,po,zero_add]
 |a::p,[]=>by simp[pad,pe,po,add_zero]
 |a::p,b::q=>by
  obtain⟨h1,h2⟩:=Cc x p q
  simp only[pad,pe,po]
  rw[h1,h2,mul_add];exact⟨by ac_rfl,rfl⟩
theorem Cb(c x:GF):∀p:List GF,pe x (p.map (c* ·))=c*pe x p∧po x (p.map (c* ·))=c*po x p
 | []=>by simp[pe,po,mul_zero]
 |a::p=>by
  obtain⟨h1,h2⟩:=Cb c x p
  simp only[List.map_cons,pe,po]
  rw[h1,h2,mul_add];exact⟨by congr 1;ac_rfl,rfl⟩
theorem vJ{p q:List GF}(hl:p.length=q.length)(h:∀j,p.getD j 0=q.getD j 0):p=q:=
 List.ext_getElem hl fun j h1 h2=>by
  have:=h j
  simpa [bF,h1,h2] using this
theorem Mn(r:GF)(g:List GF):mulL r g=pad (g.map (r* ·)) (0::g):=by
 refine vJ (by rw[nZ,og];simp) fun j=>?_
 rw[mulL,sy _ _ _ _ (by simp),qe,add_comm]
 congr 1
 by_cases h:j<(g.map (r* ·)).length
 ·rw[if_pos ⟨Nat.zero_le _,by omega⟩,Nat.sub_zero]
 ·rw[if_neg (by omega),bF,List.getElem?_eq_none (by omega)];rfl
theorem Cl(r x:GF)(g:List GF):po x (mulL r g)=pv g x+(r+x)*po x g:=by
 rw[Mn,(Cc x _ _).2,(Cb r x g).2,po,Ca x g,add_mul]
 rw[show pe x g+x*po x g+(r*po x g+x*po x g)=(x*po x g+(x*po x g+(r*po x g+pe x g))) by ac_rfl,me]
theorem Ck(x:GF):∀(t g:List GF),x ∉ t→pv g x=0→po x (t.foldl (fun g r=>mulL r g) g)=po x g*lp x t
 | [],g,_,_=>by rw[List.foldl_nil,lp,mul_one]
 |r::t,g,h,h0=>by
  have hne:r≠x:=fun e=>h (e▸List.mem_cons_self)
  rw[List.foldl_cons,Ck x t _ (fun e=>h (List.mem_cons_of_mem _ e)) (by rw[lI,h0,mul_zero]),Cl,h0,zero_add,vZ t hne,add_comm r x];ac_rfl
theorem Cj(x:GF):∀(t g:List GF),t.Nodup→x∈t→po x (t.foldl (fun g r=>mulL r g) g)=pv g x*lp x t
 | [],_,_,h=>by simp at h
 |r::t,g,hn,h=>by
  have h1:=List.nodup_cons.1 hn
  rw[List.foldl_cons]
  by_cases e:r=x
  ·subst e
   rw[Ck r t _ h1.1 (by rw[lI,eE,zero_mul]),Cl,eE,zero_mul,add_zero,Br]
  ·have hx:x∈t:=(List.mem_cons.1 h).resolve_left fun e'=>e e'.symm
   rw[Cj x t _ h1.2 hx,lI,vZ t e,add_comm r x];ac_rfl
theorem PE{l:List GF}(hn:l.Nodup){x:GF}(hx:x∈l):pv (dE (gr l).tail) x=lp x l:=by
 rw[GB]
 show po x (l.foldl (fun g r=>mulL r g) [1])=_
 rw[Cj x l [1] hn hx]
 simp only[pv];rw[mul_zero,add_zero,one_mul]
def bl(a:GF)(N:Nat):List GF:=(List.range N).map (pow a)
theorem dI(a:GF)(N:Nat):(bl a N).length=N:=by simp[bl]
theorem tZ(a:GF){N i:Nat}(h:i<N):(bl a N).getD i 0=pow a i:=by simp[bl,bF,h]
theorem Dp(a β:GF)(full:List GF)(F:GF→GF):∀(W:List GF)(s:Nat),(∀i<W.length,F (pow a (s+i))*inv (lp (pow a (s+i)) full)=pow β (s+i)*W.getD i 0)→
 ss full F ((List.range' s W.length).map (pow a))=pow β s*pv W β
 | [],s,_=>by simp[ss,pv,mul_zero]
 |c::W,s,h=>by
  rw[List.length_cons,List.range'_succ,List.map_cons,ss,Dp a β full F W (s+1) fun i hi=>?_]
  ·have h0:=h 0 (by simp)
   rw[Nat.add_zero]at h0
   rw[h0,List.getD_cons_zero,pv,mul_add,pow];congr 1;ac_rfl
  ·have:=h (i+1) (by simp;omega)
   rw[show s+(i+1)=s+1+i by omega,List.getD_cons_succ]at this;exact this
def wv(a:GF)(N B i:Nat):GF:=inv (pow (pow a i) B*lp (pow a i) (bl a N))
theorem D3{a:GF}(ha:a≠0)(N B i:Nat):wv a N B i≠0:=tu (mN (oh (oh ha i) B) (pU _ _))
theorem QK{a:GF}(ha:a≠0)(N B i:Nat):inv (wv a N B i)=pow (pow a i) B*lp (pow a i) (bl a N):=inv_inv (mN (oh (oh ha i) B) (pU _ _))
theorem AR{l:List GF}(hn:l.Nodup)(u:Nat→GF):∃y:GF→GF,∀i<l.length,y (l.getD i 0)=u i:=by
 refine⟨fun x=>u (l.findIdx fun z=>decide (z=x)),fun i hi=>?_⟩
 have hg:l.getD i 0=l[i]:=by simp[bF,hi]
 rw[hg]
 refine congrArg u ((List.findIdx_eq (p:=fun z=>decide (z=l[i])) hi).2 ⟨decide_eq_true rfl,fun j hj=>?_⟩)
 have:=List.pairwise_iff_getElem.1 (List.nodup_iff_pairwise_ne.1 hn) j i (by omega) hi hj
 exact decide_eq_false this
theorem QG{a:GF}(ha:a≠0){W:List GF}{N K B:Nat}(hW:W.length=N)(hK:K≤N)(hn:(bl a N).Nodup)(hr:∀j,j<N-K→pv W (pow a (B+j))=0):
 ∃P,P.length=K∧∀i<N,pv P (pow a i)=W.getD i 0*inv (wv a N B i):=by
 obtain⟨y,hy⟩:=AR hn fun i=>W.getD i 0*inv (wv a N B i)
 have hy:∀i<N,y (pow a i)=W.getD i 0*inv (wv a N B i):=fun i hi=>by
  have:=hy i (by rw[dI];exact hi)
  rw[tZ a hi]at this;exact this
 obtain⟨P,hP,hv⟩:=L6 hn (K:=K) y fun j hj=>by
  rw[dI]at hj
  have h:=Dp a (pow a (B+j)) (bl a N) (fun x=>pow x j*y x) W 0 fun i hi=>by
   rw[Nat.zero_add]
   show pow (pow a i) j*y (pow a i)*inv (lp (pow a i) (bl a N))=_
   rw[hy i (by omega),QK ha,wZ,wZ,wZ,show(B+j)*i=i*j+i*B by rw[Nat.add_mul,Nat.mul_comm B,Nat.mul_comm j];omega,pow_add]
   rw[show pow a (i*j)*(W.getD i 0*(pow a (i*B)*lp (pow a i) (bl a N)))*inv (lp (pow a i) (bl a N))=pow a (i*j)*pow a (i*B)*W.getD i 0*(lp (pow a i) (bl a N)*inv (lp (pow a i) (bl a N))) by ac_rfl,gN (pU _ _),mul_one]
  rw[hr j hj,mul_zero,hW,←List.range_eq_range']at h
  exact h
 refine⟨P,by rw[hP,dI];omega,fun i hi=>?_⟩
 rw[hv _ (List.mem_map.2 ⟨i,List.mem_range.2 hi,rfl⟩),hy i hi]
theorem Qr{a:GF}(ha:a≠0){W P:List GF}{N B:Nat}(hv:∀i<N,pv P (pow a i)=W.getD i 0*inv (wv a N B i)):∀i<N,wv a N B i*pv P (pow a i)=W.getD i 0:=fun i hi=>by
 rw[hv i hi,show wv a N B i*(W.getD i 0*inv (wv a N B i))=W.getD i 0*(wv a N B i*inv (wv a N B i)) by ac_rfl,gN (D3 ha _ _ _),mul_one]
def iV(x:GF)(n:Nat):List GF:=(List.range n).map (pow x)
theorem lM(x:GF)(n:Nat):(iV x n).length=n:=by simp[iV]
theorem y6(x:GF)(p:List GF):dot (iV x p.length) p=pv p x:=by
 unfold iV
 rw[List.range_eq_range',y5 x p 0,pow,one_mul]
def nf(K t:Nat)(x y:GF):List GF:=iV x (K+t)++(iV x (t+1)).map (y* ·)
theorem Pm(K t:Nat)(x y:GF):(nf K t x y).length=K+t+(t+1):=by simp[nf,lM]
theorem Pk{K t:Nat}(x y:GF){z0 z1:List GF}(h0:z0.length=K+t)(h1:z1.length=t+1):dot (nf K t x y) (z0++z1)=pv z0 x+y*pv z1 x:=by
 rw[nf,y4 _ _ _ _ (by rw[lM,h0]),qQ,←h0,←h1,y6,y6]
theorem Ai:∀(rs g:List GF)(m:Nat),g.length=m+1→g.getD m 0=1→(rs.foldl (fun g r=>mulL r g) g).length=m+rs.length+1∧(rs.foldl (fun g r=>mulL r g) g).getD (m+rs.length) 0=1
 | [],g,m,h,h1=>⟨by simpa using h,by simpa using h1⟩
 |r::rs,g,m,h,h1=>by
  have e:(mulL r g).getD (m+1) 0=1:=by
   have:=BA r g
   rw[h,List.getD_cons_succ,h1]at this;exact this
  obtain⟨a,b⟩:=Ai rs (mulL r g) (m+1) (by rw[nZ,h]) e
  rw[List.foldl_cons]
  exact⟨by rw[a];simp;omega,by rw[←b];congr 1;simp;omega⟩
theorem Ap(rs:List GF):(gr rs).length=rs.length+1∧(gr rs).getD rs.length 0=1:=by
 have:=Ai rs [1] 0 rfl rfl
 rw[Nat.zero_add]at this;exact this
theorem Ah(x:GF):∀(rs g:List GF),pv g x=0∨x∈rs→pv (rs.foldl (fun g r=>mulL r g) g) x=0
 | [],g,h=>h.elim id fun h=>absurd h (by simp)
 |r::rs,g,h=>by
  rw[List.foldl_cons]
  refine Ah x rs (mulL r g) ?_
  rw[lI]
  rcases h with h|h
  ·left;rw[h,mul_zero]
  ·rcases List.mem_cons.1 h with rfl|h
   ·left;rw[eE,zero_mul]
   ·exact .inr h
theorem I2{rs:List GF}{x:GF}(h:x∈rs):pv (gr rs) x=0:=Ah x rs [1] (.inr h)
theorem Cx(p:List GF)(n:Nat)(x:GF):pv (p++List.replicate n 0) x=pv p x:=by rw[fS,ic,mul_zero,add_zero]
def iv(K t:Nat)(y:GF→GF)(l:List GF):List (List GF):=l.map fun x=>nf K t x (y x)
theorem C3{K t:Nat}{y:GF→GF}{l:List GF}{i:Nat}(h:i<l.length):bE (iv K t y l) i=nf K t (l.getD i 0) (y (l.getD i 0)):=by
 simp[bE,iv,bF,h]
theorem C4{K t:Nat}{y:GF→GF}{l z:List GF}(hz:z.length=K+t+(t+1)):iz l.length (iv K t y l) z↔∀x∈l,pv (z.take (K+t)) x+y x*pv (z.drop (K+t)) x=0:=by
 have key:∀x,dot (nf K t x (y x)) z=pv (z.take (K+t)) x+y x*pv (z.drop (K+t)) x:=fun x=>by
  conv=>lhs;rw[←List.take_append_drop (K+t) z]
  exact Pk x (y x) (by simp;omega) (by simp;omega)
 constructor
 ·intro h x hx
  obtain⟨i,hi,rfl⟩:=List.getElem_of_mem hx
  have:=h i hi
  rw[C3 hi,key]at this
  simpa [bF,hi] using this
 ·intro h i hi
  rw[C3 hi,key]
  exact h _ (by simp[bF,hi])
theorem PH{K t:Nat}{y:GF→GF}{l P:List GF}(hK:1≤K)(hP:P.length=K)(hb:(l.filter fun x=>!decide (pv P x=y x)).length≤t):
 ∃z:List GF,z.length=K+t+(t+1)∧iz l.length (iv K t y l) z∧∃c,c<K+t+(t+1)∧z.getD c 0≠0:=by
 let b:=l.filter fun x=>!decide (pv P x=y x)
 obtain⟨g1,g2⟩:=Ap b
 have hb:b.length≤t:=hb
 have hm:=tY P (gr b) (by intro e;rw[e]at g1;simp at g1)
 let z0:=fH P (gr b)++List.replicate (K+t-(fH P (gr b)).length) 0
 let z1:=gr b++List.replicate (t-b.length) 0
 have h0:z0.length=K+t:=by simp[z0];omega
 have h1:z1.length=t+1:=by simp[z1];omega
 refine⟨z0++z1,by simp[h0,h1],(C4 (by simp[h0,h1])).2 fun x hx=>?_,K+t+b.length,by omega,?_⟩
 ·rw[←h0,List.take_left,List.drop_left,Cx,Cx,rP]
  by_cases hxy:pv P x=y x
  ·rw[hxy,eE]
  ·have:x∈b:=List.mem_filter.2 ⟨hx,by simp[hxy]⟩
   rw[I2 this,mul_zero,mul_zero,add_zero]
 ·rw[←h0,Aq]
  have:z1.getD b.length 0=1:=by
   rw[←g2];simp[z1,bF,List.getElem?_append_left (show b.length<(gr b).length by omega)]
  rw[this];exact tX
theorem PI{K t:Nat}{y:GF→GF}{l P z:List GF}(hn:l.Nodup)(hl:l.length≤255)(hP:P.length=K)(hb:(l.filter fun x=>!decide (pv P x=y x)).length≤t)(hlen:K+2*t≤l.length)(hz:z.length=K+t+(t+1))(hs:iz l.length (iv K t y l) z)(h0:∃c,c<z.length∧z.getD c 0≠0):(∀x,pv (z.take (K+t)) x=pv P x*pv (z.drop (K+t)) x)∧aW (z.drop (K+t))≠ []:=by
 have key:=QC hn (Nat.le_of_eq hP) (Q0:=z.take (K+t)) (Q1:=z.drop (K+t)) (t:=t) (by simp;omega) (by simp;omega) hl hb hlen ((C4 hz).1 hs)
 refine⟨key,fun e=>?_⟩
 have e1:∀x,pv (z.drop (K+t)) x=0:=fun x=>by rw[←fG,e];rfl
 have z1:=sh (p:=z.drop (K+t)) (by simp;omega) e1
 have z0:=sh (p:=z.take (K+t)) (by simp;omega) fun x=>by rw[key x,e1 x,mul_zero]
 obtain⟨c,hc,hc0⟩:=h0
 apply hc0
 by_cases h:c<K+t
 ·have:=z0 (z[c]) (List.mem_take_iff_getElem.2 ⟨c,by omega,rfl⟩)
  simpa [bF,hc] using this
 ·have:=z1 (z[c]) (List.mem_drop_iff_getElem.2 ⟨c-(K+t),by omega,by congr 1;omega⟩)
  simpa [bF,hc] using this
end Go.Proofs.YtmhkpafkadijgaaGreatDoor.Gw
namespace Go.Proofs.YtmhkpafkadijgaaGreatDoor.Gw
open Go Go.RowKit GF
theorem vF(A:List GF)(i d:Nat)(v:GF)(h:A.length=i):(A++List.replicate (d+1) 0).set i v=(A++[v])++List.replicate d 0:=by
 rw[List.set_append_right _ _ (by omega),h,Nat.sub_self,List.replicate_succ,List.set_cons_zero,List.append_assoc];rfl
theorem Ak(a:GF){n:Nat}(h:n<4611686018427387904):jK.f ((a.1:Nat):Int) (n:Int)=some (((pow a n).1:Nat):Int):=by
 unfold jK.f an jN
 rw[ti,decide_eq_true (by omega)]
 have e:((n:Int)%255).toNat=n%255:=by omega
 simp only[Bool.and_self,cond_true,e,Int.toNat_natCast]
 by_cases ha:a=0
 ·subst ha
  by_cases hn:n=0
  ·subst hn;rfl
  ·rw[if_pos ⟨rfl,by omega⟩]
   obtain⟨m,rfl⟩:∃m,n=m+1:=⟨n-1,by omega⟩
   rw[pow,GF.mul_zero];rfl
 ·have h0:a.1≠0:=fun e=>ha (GF.ext e)
  rw[if_neg (by omega),nP a.2 h0,jW]
theorem sX{a:GF}(h:a≠0):fN.f ((a.1:Nat):Int)=some ((((inv a).1:Nat):Int),true):=by
 unfold fN.f an
 have h0:a.1≠0:=fun e=>h (GF.ext e)
 rw[ti,if_neg (by omega)];rfl
theorem II(b:GF){a:GF}(h:a≠0):nJ.f ((b.1:Nat):Int) ((a.1:Nat):Int)=some ((((b*inv a).1:Nat):Int),true):=by
 unfold nJ.f
 rw[sX h,aJ]
 simp only[Bool.not_true,cond_false]
 rw[ru,aJ]
theorem Cs(x:GF)(n:Nat)(hn:n<1000):∀(d j k:Nat),j+d=n→d<k→gD.l0 k ((x.1:Nat):Int) (n:Int) (bi (iV x j++List.replicate d 0)) (j:Int)=some (bi (iV x n))
 |d,_,0,_,h=>by omega
 |0,j,k+1,hj,hk=>by
  obtain rfl:j=n:=by omega
  rw[gD.l0,aQ (by simp)];simp
 |d+1,j,k+1,hj,hk=>by
  rw[gD.l0,bh (by simp;omega),Ak x (by omega),aJ,aF (by rw[bi_length];simp[lM];omega),Int.toNat_natCast,gY,vF _ _ _ _ (lM x j),bT (by omega)]
  have e:iV x j++[pow x j]=iV x (j+1):=by simp[iV,List.range_succ]
  rw[e]
  exact Cs x n hn d (j+1) k (by omega) (by omega)
theorem Ct{x:GF}{n k:Nat}(hn:n<1000)(hk:1000<k):gD.f k ((x.1:Nat):Int) (n:Int)=some (bi (iV x n)):=by
 unfold gD.f
 rw[aF (by omega),Int.toNat_natCast,gZ]
 exact Cs x n hn n 0 k (by omega) (by omega)
theorem Pn{p q:List GF}{k:Nat}(hp:p.length<1000)(hq:q.length<1000)(h0:0<p.length)(hk:10<k):oM.f k [bi p,bi q]=some (bi (p++q)):=by
 obtain⟨k,rfl⟩:∃k',k=k'+10:=⟨k-10,by omega⟩
 have hl:(([bi p,bi q]:List (List Int)).length:Int)=2:=rfl
 have a0:at_ [] [bi p,bi q] 0=bi p:=rfl
 have a1:at_ [] [bi p,bi q] 1=bi q:=rfl
 have w1:IntKind.i64.wrap ((0:Int)+1)=1:=rfl
 have w2:IntKind.i64.wrap ((1:Int)+1)=2:=rfl
 have ep:IntKind.i64.wrap ((0:Int)+((bi p).length:Int))=(p.length:Int):=by rw[bi_length,ca (by omega) (by omega)];omega
 have eq:IntKind.i64.wrap ((p.length:Int)+((bi q).length:Int))=((p.length+q.length:Nat):Int):=by rw[bi_length,ca (by omega) (by omega)];omega
 have es:IntKind.i64.wrap (((p.length+q.length:Nat):Int)-0)=((p.length+q.length:Nat):Int):=by rw[ca (by omega) (by omega)];omega
 unfold oM.f db.f
 rw[db.l0,bh (by rw[hl];decide),aF (by rw[hl];decide),a0,ep,aQ (by omega),w1]
 rw[db.l0,bh (by rw[hl];decide),aF (by rw[hl];decide),a1,eq,aQ (by omega),w2]
 rw[db.l0,aQ (by rw[hl];decide)]
 unfold db.j0 db.j1
 rw[aQ (by omega),es,bh (by omega),aF (by omega),aF (by omega)]
 rw[db.l1,bh (by rw[hl];decide),aF (by rw[hl];decide),a0,aF (by rw[bi_length];simp;omega),w1]
 rw[db.l1,bh (by rw[hl];decide),aF (by rw[hl];decide),a1,aF (by simp;omega),w2]
 rw[db.l1,aQ (by rw[hl];decide),aJ]
 simp[bi]
def kh(M:List (List GF)):List (List Int):=M.map bi
theorem mg(M:List (List GF)):(kh M).length=M.length:=by simp[kh]
theorem yA(M:List (List GF))(i:Nat):at_ [] (kh M) (i:Int)=bi (bE M i):=by
 simp only[at_,kh,Int.toNat_natCast,bF,List.getElem?_map,bE]
 cases M[i]? <;>simp[bi]
theorem Dk{K t:Nat}(hK:0<K)(h:K+t<500)(y:GF→GF)(xs:List GF)(hx:xs.length<1000):∀(d i k:Nat),i+d=xs.length→3000<k→
 fl.l0 (k+d+1) (bi xs) (bi (xs.map y)) (K:Int) (t:Int) (kh ((iv K t y xs).take i)) (i:Int)=fl.j0 k (kh (iv K t y xs)) (K:Int) (t:Int)
 |0,i,k,hi,hk=>by
  rw[fl.l0,aQ (by rw[bi_length];omega),List.take_of_length_le (by simp[iv];omega)]
 |d+1,i,k,hi,hk=>by
  have hix:i<xs.length:=by omega
  have wa:IntKind.i64.wrap ((K:Int)+(t:Int))=((K+t:Nat):Int):=by rw[ca (by omega) (by omega)];omega
  have wb:IntKind.i64.wrap ((t:Int)+1)=((t+1:Nat):Int):=bT (by omega)
  rw[fl.l0,bh (by rw[bi_length];omega),aF (by rw[bi_length];omega),cI,wa,Ct (by omega) (by omega),aJ,aF (by rw[bi_length,List.length_map];omega),wb,Ct (by omega) (by omega),aJ,cI,
   nG (by rw[lM];omega) (by rw[lM];omega),aJ,Pn (by rw[lM];omega) (by rw[List.length_map,lM];omega) (by rw[lM];omega) (by omega),aJ,aF (by rw[mg];simp[iv];omega),bT (by omega)]
  have e:kh ((iv K t y xs).take i)++[bi (iV (xs.getD i 0) (K+t)++(iV (xs.getD i 0) (t+1)).map ((xs.map y).getD i 0* ·))]=kh ((iv K t y xs).take (i+1)):=by
   rw[List.take_succ_eq_append_getElem (by simp[iv];omega)]
   simp[kh,iv,nf,bF,hix]
  rw[e,show k+(d+1)=k+d+1 by omega]
  exact Dk hK h y xs hx d (i+1) k (by omega) hk
theorem sY{C:Nat}:∀(M:List (List GF)),(∀r∈M,r.length=C)→M.flatten.length=M.length*C
 | [],_=>by simp
 |r::M,h=>by
  rw[List.flatten_cons,List.length_append,sY M fun s hs=>h s (List.mem_cons_of_mem _ hs),h r List.mem_cons_self,List.length_cons,Nat.add_mul];omega
theorem BS{C:Nat}(M:List (List GF))(hM:∀r∈M,r.length=C)(h1:M.length<1000)(h2:C<1000):∀(d i k:Nat),i+d=M.length→d<k→
 eK.l0 k (kh M) (C:Int) (bi (M.take i).flatten) (i:Int)=some (((M.length:Int),(C:Int),bi M.flatten),true)
 |d,_,0,_,h=>by omega
 |0,i,k+1,hi,hk=>by
  rw[eK.l0,aQ (by rw[mg];omega),List.take_of_length_le (by omega),mg]
 |d+1,i,k+1,hi,hk=>by
  have hiM:i<M.length:=by omega
  have hr:(bE M i).length=C:=by
   simp only[bE,bF,List.getElem?_eq_getElem hiM]
   exact hM _ (List.getElem_mem hiM)
  have hf:(M.take i).flatten.length=i*C:=by
   rw[sY _ fun r hr=>hM r (List.mem_of_mem_take hr),List.length_take,Nat.min_eq_left (by omega)]
  have hmul:i*C≤1000*1000:=Nat.mul_le_mul (by omega) (by omega)
  rw[eK.l0,bh (by rw[mg];omega),aF (by rw[mg];omega),yA,cH (by rw[bi_length,hr]),aF (by rw[bi_length,bi_length,hf,hr];omega),bT (by omega),←gb]
  have e:(M.take i).flatten++bE M i=(M.take (i+1)).flatten:=by
   rw[List.take_succ_eq_append_getElem hiM,List.flatten_append]
   simp[bE,bF,hiM]
  rw[e]
  exact BS M hM h1 h2 d (i+1) k (by omega) (by omega)
theorem Mc{C k:Nat}{M:List (List GF)}(hM:∀r∈M,r.length=C)(h0:0<M.length)(h1:M.length≤300)(h2:C≤300)(hk:1000<k):eK.f k (kh M)=some (((M.length:Int),(C:Int),bi M.flatten),true):=by
 have hr:(bE M 0).length=C:=by
  simp only[bE,bF,List.getElem?_eq_getElem h0]
  exact hM _ (List.getElem_mem h0)
 unfold eK.f
 rw[bh (by rw[mg];omega),aF (by rw[mg];omega),show(0:Int)=((0:Nat):Int) from rfl,yA,bi_length,hr]
 unfold eK.j0
 rw[aQ (by rw[mg];omega),aQ (by omega)]
 exact BS M hM (by omega) (by omega) M.length 0 k (by omega) (by omega)
theorem Md{R C:Nat}{l:List GF}(hR:R≤300)(hC:C≤300)(hl:l.length=R*C):nY.f ((R:Int),(C:Int),bi l)=some true:=by
 unfold nY.f mM.f
 have hm:R*C≤300*300:=Nat.mul_le_mul hR hC
 have e:IntKind.i64.wrap ((R:Int)*(C:Int))=((R*C:Nat):Int):=by rw[←Int.natCast_mul,iB (by omega)]
 simp only[]
 rw[bh (by omega),decide_eq_true (by omega),aJ]
 simp only[cond_true]
 rw[bh (by omega),decide_eq_true (by omega),aJ]
 simp only[cond_true]
 rw[e,bi_length,hl,decide_eq_true rfl]
theorem u7:∀(d i k:Nat)(p:List GF),i+d=p.length→p.length<1000→1000+d<k→
 fY.l0 k (bi p) (bi ((dE p).take i++p.drop i)) (i:Int)=some (bi (aW (dE p)))
 |d,_,0,_,_,_,h=>by omega
 |0,i,k+1,p,hi,hp,hk=>by
  have hl:=(sJ p).1
  rw[fY.l0,aQ (by rw[bi_length];omega),List.take_of_length_le (by omega),List.drop_of_length_le (by omega),List.append_nil,lK (by omega) (by omega),aJ]
 |d+1,i,k+1,p,hi,hp,hk=>by
  have hl:=(sJ p).1
  have hip:i<p.length:=by omega
  have hid:i<(dE p).length:=by omega
  have hm:Int.tmod (i:Int) 2=((i%2:Nat):Int):=by rw[Int.tmod_eq_emod_of_nonneg (by omega)];omega
  have ed:p.drop i=p.getD i 0::p.drop (i+1):=by rw[List.drop_eq_getElem_cons hip,dG hip]
  have et:(dE p).take (i+1)=(dE p).take i++[(dE p).getD i 0]:=by rw[List.take_succ_eq_append_getElem hid,dG hid]
  have hg:=(zd p i).1
  have hlen:((dE p).take i).length=i:=by rw[List.length_take];omega
  rw[fY.l0,bh (by rw[bi_length];omega),hm]
  rcases Nat.mod_two_eq_zero_or_one i with ho|ho
  ·rw[aQ (by omega),bT (by omega)]
   rw[if_neg (by omega)]at hg
   have e:(dE p).take i++p.drop i=(dE p).take (i+1)++p.drop (i+1):=by rw[ed,et,hg];simp
   rw[e]
   exact u7 d (i+1) k p (by omega) hp (by omega)
  ·rw[bh (by omega),aF (by rw[bi_length,List.length_append,hlen,List.length_drop];omega),Int.toNat_natCast,show(0:Int)=(((0:GF).1:Nat):Int) from rfl,gY,bT (by omega)]
   rw[if_pos ho]at hg
   have e:((dE p).take i++p.drop i).set i 0=(dE p).take (i+1)++p.drop (i+1):=by
    rw[ed,et,hg,List.set_append_right _ _ (by omega),hlen,Nat.sub_self,List.set_cons_zero];simp
   rw[e]
   exact u7 d (i+1) k p (by omega) hp (by omega)
theorem Gz{p:List GF}{k:Nat}(hp:p.length<1000)(hk:2500<k):fY.f k (bi p)=some (bi (aW (dE p.tail))):=by
 unfold fY.f
 cases p with
 |nil=>rw[bh (by rfl)];rfl
 |cons c p=>
  have e:((bi (c::p)).take (bi (c::p)).length).drop ((1:Int).toNat)=bi p:=by rw[List.take_length];rfl
  rw[aQ (by rw[bi_length,List.length_cons];omega),aF (by rw[bi_length,List.length_cons];omega),e]
  simp only[List.length_cons]at hp
  have e2:dM.f (bi p)=some (bi p):=by unfold dM.f;rw[aF (by rw[bi_length];omega)]
  rw[e2,aJ]
  have:=u7 p.length 0 k p (by omega) (by omega) (by omega)
  rw[List.take_zero,List.nil_append,List.drop_zero]at this
  exact this
theorem Cv{N:Nat}(h:N≤255):(bl al N).Nodup:=by
 have:=Pr (B:=0) h
 simpa [eQ,bl] using this
theorem N1{N i:Nat}(h:i<N):pow al i∈bl al N:=List.mem_map.2 ⟨i,List.mem_range.2 h,rfl⟩
def jy(N B:Nat):List GF:=(List.range N).map (wv al N B)
theorem qq(N B:Nat):(jy N B).length=N:=by simp[jy]
theorem QL{N B i:Nat}(h:i<N):(jy N B).getD i 0=wv al N B i:=by simp[jy,bF,h]
theorem Cm{N K B:Nat}(hN:N≤250):∀(d i k:Nat),i+d=N→3000<k→
 dn.l0 (k+d+1) ((N:Int),(K:Int),(B:Int)) (bi (bl al i++List.replicate d 0)) (i:Int)=dn.j0 (dn.l1 k) k ((N:Int),(K:Int),(B:Int)) (bi (bl al N))
 |0,i,k,hi,hk=>by
  obtain rfl:i=N:=by omega
  rw[dn.l0,aQ (by simp)];simp
 |d+1,i,k,hi,hk=>by
  rw[dn.l0,bh (by simp;omega),wY (by omega),aJ,aF (by rw[bi_length];simp[dI];omega),Int.toNat_natCast,gY,vF _ _ _ _ (dI al i),bT (by omega)]
  have e:bl al i++[pow al i]=bl al (i+1):=by simp[bl,List.range_succ]
  rw[e,show k+(d+1)=k+d+1 by omega]
  exact Cm hN d (i+1) k (by omega) hk
theorem Cn{N K B:Nat}(hN:N≤250)(hB:B≤255){s:List GF}(hs:s.length<1000)(hv:∀i<N,pv s (pow al i)=lp (pow al i) (bl al N)):∀(d i k:Nat),i+d=N→3000+d<k→
 dn.l1 k ((N:Int),(K:Int),(B:Int)) (bi (bl al N)) (bi s) (bi ((jy N B).take i++List.replicate d 0)) (i:Int)=some (bi (bl al N),bi (jy N B))
 |d,_,0,_,h=>by omega
 |0,i,k+1,hi,hk=>by
  rw[dn.l1,aQ (by rw[bi_length,dI];omega),List.take_of_length_le (by rw[qq];omega)];simp
 |d+1,i,k+1,hi,hk=>by
  have hiN:i<N:=by omega
  have hne:pow (pow al i) B*lp (pow al i) (bl al N)≠0:=mN (oh (oh qA i) B) (pU _ _)
  have hl:((jy N B).take i).length=i:=by rw[List.length_take,qq];omega
  rw[dn.l1,bh (by rw[bi_length,dI];omega),aF (by rw[bi_length,dI];omega),cI,tZ al hiN]
  simp only[]
  rw[Ak _ (by omega),aJ,uY (by omega) (by omega),aJ,hv i hiN,ru,aJ,sX hne,aJ,aF (by rw[bi_length,List.length_append,hl];simp;omega),Int.toNat_natCast,gY,vF _ _ _ _ hl,bT (by omega)]
  have e:(jy N B).take i++[inv (pow (pow al i) B*lp (pow al i) (bl al N))]=(jy N B).take (i+1):=by
   rw[List.take_succ_eq_append_getElem (by rw[qq];exact hiN)]
   simp[jy,wv]
  rw[e]
  exact Cn hN hB hs hv d (i+1) k (by omega) (by omega)
theorem Co{N K B k:Nat}(hc:Cd N K B)(hN:N≤250)(hB:B≤255)(hk:8000<k):dn.f k ((N:Int),(K:Int),(B:Int))=some (bi (bl al N),bi (jy N B)):=by
 obtain⟨k,rfl⟩:∃k',k=k'+N+1:=⟨k-N-1,by omega⟩
 have hgl:=(Ap (bl al N)).1
 rw[dI]at hgl
 unfold dn.f
 simp only[]
 rw[jX hc,aJ,cH rfl,aF (by omega),Int.toNat_natCast,gZ]
 have h:=Cm (K:=K) (B:=B) hN N 0 k (by omega) (by omega)
 rw[show bl al 0=[] from rfl,List.nil_append]at h
 rw[show(0:Int)=((0:Nat):Int) from rfl,h]
 unfold dn.j0
 simp only[]
 rw[IU (by rw[dI];omega) (by omega),aJ,Gz (by omega) (by omega),aJ,aF (by omega),Int.toNat_natCast,gZ]
 have hdl:(aW (dE (gr (bl al N)).tail)).length<1000:=by
  have h1:=gP (dE (gr (bl al N)).tail)
  have h2:=(sJ (gr (bl al N)).tail).1
  rw[List.length_tail]at h2
  omega
 have:=Cn (N:=N) (K:=K) (B:=B) hN hB hdl (fun i hi=>by rw[fG,PE (Cv (by omega)) (N1 hi)]) N 0 k (by omega) (by omega)
 rw[List.take_zero,List.nil_append]at this
 exact this
def gU(y:GF→GF)(p l:List GF):Nat:=(l.filter fun x=>!decide (pv p x=y x)).length
theorem Ql{y:GF→GF}{p:List GF}{a:GF}(t:List GF)(h:pv p a=y a):gU y p (a::t)=gU y p t:=by
 unfold gU;rw[List.filter_cons,if_neg (by simp[h])]
theorem Qm{y:GF→GF}{p:List GF}{a:GF}(t:List GF)(h:¬pv p a=y a):gU y p (a::t)=gU y p t+1:=by
 unfold gU;rw[List.filter_cons,if_pos (by simp[h])];rfl
theorem xO{p xs:List GF}(y:GF→GF)(hp:p.length<1000)(hx:xs.length<1000):∀(d i k c:Nat),i+d=xs.length→2000+d<k→c+d<100000→
 gV.l0 k (bi p) (bi xs) (bi (xs.map y)) (c:Int) (i:Int)=some ((c+gU y p (xs.drop i):Nat):Int)
 |d,_,0,_,_,h,_=>by omega
 |0,i,k+1,c,hi,hk,hc=>by
  rw[gV.l0,aQ (by rw[bi_length,bi_length,List.length_map,tI];omega),List.drop_of_length_le (by omega)];rfl
 |d+1,i,k+1,c,hi,hk,hc=>by
  have hix:i<xs.length:=by omega
  have e:xs.drop i=xs.getD i 0::xs.drop (i+1):=by rw[List.drop_eq_getElem_cons hix,dG hix]
  have hu:gU y p (xs.drop (i+1))≤xs.length:=by
   refine Nat.le_trans (List.length_filter_le _ _) ?_
   rw[List.length_drop];omega
  rw[gV.l0,bh (by rw[bi_length,bi_length,List.length_map,tI];omega),aF (by rw[bi_length];omega),aF (by rw[bi_length,List.length_map];omega),cI,uY (by omega) (by omega),aJ,cI]
  have hy:(xs.map y).getD i 0=y (xs.getD i 0):=by simp[bF,hix]
  rw[hy,e]
  by_cases h:pv p (xs.getD i 0)=y (xs.getD i 0)
  ·rw[cH (by rw[h]),bT (by omega),xO y hp hx d (i+1) k c (by omega) (by omega) (by omega),Ql _ h]
  ·have hne:¬(((pv p (xs.getD i 0)).1:Nat):Int)=(((y (xs.getD i 0)).1:Nat):Int):=fun e=>h (GF.ext (by omega))
   rw[kg hne,bT (by omega),bT (by omega),xO y hp hx d (i+1) k (c+1) (by omega) (by omega) (by omega)]
   rw[Qm _ h];congr 2;omega
theorem Qn{p xs:List GF}(y:GF→GF){k:Nat}(hp:p.length<1000)(hx:xs.length<1000)(hk:4000<k):gV.f k (bi p) (bi xs) (bi (xs.map y))=some ((gU y p xs:Nat):Int):=by
 unfold gV.f
 have:=xO y hp hx xs.length 0 k 0 (by omega) (by omega) (by omega)
 rw[List.drop_zero,Nat.zero_add]at this
 exact this
theorem O1{N K B k:Nat}{p:List GF}(hc:Cd N K B)(hN:N≤250)(hB:B≤255)(hp:p.length<1000)(hk:8000<k):oL.f k ((N:Int),(K:Int),(B:Int)) (bi p)=some (bi ((List.range N).map fun i=>wv al N B i*pv p (pow al i))):=by
 unfold oL.f
 simp only[]
 rw[Co hc hN hB hk,aJ]
 simp only[]
 rw[uW (by omega) (by rw[dI];omega) (by omega),aJ,Aj _ _ (by rw[qq];omega),aJ]
 congr 2
 apply List.ext_getElem (by simp[qq,dI])
 intro i h1 h2
 simp[jy,bl]
theorem wH(p:List GF):aW (aW p)=aW p:=by
 refine vJ ?_ fun j=>jR _ j
 have h1:=gP (aW p)
 by_cases e:aW p=[]
 ·rw[e];rfl
 ·have h2:=pY e
  rw[←jR (aW p)]at h2
  have hpos:=List.length_pos_iff.2 e
  by_cases hj:(aW p).length-1<(aW (aW p)).length
  ·omega
  ·rw[bF,List.getElem?_eq_none (by omega)]at h2
   exact absurd rfl h2
theorem Ao{s:Nat}{g gg:List GF}{c:GF}(hgg:g.take (s+1)=gg)(hgl:gg.length=s+1)(hgl2:s+1≤g.length)(hg4:g.length<1000)(hgc:gg.getD s 0=c)(hc0:c≠0)(hs:s≤254):∀(n:Nat)(l q:List GF)(k:Nat),l.length≤n→l.length<1000→q.length<1000→l.length≤q.length+s→n*(s+8)+2000<k→aW l=l→(∀j,j<l.length-s→q.getD j 0=0)→
 ∃(R q':List GF),R.length≤s∧aW R=R∧q'.length=q.length∧(∀x,pv l x+pv q x*pv gg x=pv q' x*pv gg x+pv R x)∧cU.l0 k (bi g) (s:Int) ((((inv c).1:Nat):Int),true) (bi l) (bi q)=some (bi (aW q'),bi R,true)
 |n,l,q,0,_,_,_,_,h,_,_=>by omega
 |n,l,q,k+1,hn,hl,hq2,hq,hk,hnl,hz=>by
  have e0:IntKind.i64.wrap (((bi l).length:Int)-1)=(l.length:Int)-1:=by rw[bi_length];exact ca (by omega) (by omega)
  by_cases hle:l.length≤s
  ·refine⟨l,q,hle,hnl,rfl,fun x=>GF.add_comm _ _,?_⟩
   rw[cU.l0,e0,bh (by omega)]
   unfold cU.j0
   rw[lK (by omega) (by omega)];rfl
  ·match n,hn,hk with
   |0,hn,hk=>omega
   |n+1,hn,hk=>
    have hmul:(n+1)*(s+8)=n*(s+8)+s+8:=by rw[Nat.add_mul];omega
    have e1:(l.length:Int)-1=((l.length-1:Nat):Int):=by omega
    have e2:IntKind.i64.wrap (((l.length-1:Nat):Int)-(s:Int))=((l.length-1-s:Nat):Int):=by rw[ca (by omega) (by omega)];omega
    rw[cU.l0,e0,aQ (by omega),e1,aF (by rw[bi_length];omega),cI]
    simp only[]
    rw[ru,aJ,e2,aF (by rw[bi_length];omega),bT (by omega),aF (by rw[bi_length];omega),Int.toNat_natCast,lh,nu,hgg,List.drop_zero,nG (by rw[hgl];omega) (by rw[hgl];omega),aJ]
    generalize ht:l.getD (l.length-1) 0*inv c=t
    obtain⟨k',h1,h2⟩:=y3 g l (gg.map (t* ·)) s t.1 ((((inv c).1:Nat):Int),true) (bi q) (by omega) (by omega) (by rw[List.length_map,hgl]) (gg.map (t* ·)).length 0 k l (by omega) (by rw[List.length_map,hgl];omega) rfl
    rw[show((0:Nat):Int)=0 from rfl]at h2
    rw[List.length_map,hgl]at h1
    rw[h2,Nat.add_zero,List.drop_zero]
    generalize hl':fL (l.length-1-s) (gg.map (t* ·)) l=l'
    have hlen:l'.length=l.length:=by rw[←hl',j9]
    have htc:t*c=l.getD (l.length-1) 0:=by rw[←ht,GF.mul_assoc,GF.mul_comm (inv c),gN hc0,GF.mul_one]
    have htop:l'.getD (l'.length-1) 0=0:=by
     rw[hlen,←hl',sy _ _ _ _ (by rw[List.length_map,hgl];omega),if_pos (by rw[List.length_map,hgl];omega),show l.length-1-(l.length-1-s)=s by omega]
     have:(gg.map (t* ·)).getD s 0=t*gg.getD s 0:=pV t gg s
     rw[this,hgc,htc,GF.eE]
    have hlt:=MB (by omega) htop
    have hval:∀x,pv l' x=pv l x+pow x (l.length-1-s)*(t*pv gg x):=fun x=>by
     rw[←hl',rQ x _ _ _ (by rw[List.length_map,hgl];omega),mX]
    unfold cU.j1
    rw[qP (by omega) (by omega),aJ,ca (x:=((aW l').length:Int)-1+1) (by omega) (by omega),aF (by rw[bi_length];omega)]
    rw[show(((aW l').length:Int)-1+1).toNat=(aW l').length by omega,lh,tQ]
    rw[e0,e1,e2,Int.toNat_natCast,gY]
    have hq0:=hz (l.length-1-s) (by omega)
    obtain⟨R,q',r1,r2,r3,r4,r5⟩:=Ao hgg hgl hgl2 hg4 hgc hc0 hs n (aW l') (q.set (l.length-1-s) t) k' (by omega) (by omega) (by rw[List.length_set];omega) (by rw[List.length_set];omega) (by omega) (wH l') fun j hj=>by
     rw[bF,List.getElem?_set,if_neg (by omega),←bF]
     exact hz j (by omega)
    refine⟨R,q',r1,r2,by rw[r3,List.length_set],fun x=>?_,r5⟩
    rw[←r4 x,fG,hval x,ub x t q _ (by omega),hq0,GF.zero_add,GF.add_mul]
    rw[show pv l x+pow x (l.length-1-s)*(t*pv gg x)+(pv q x*pv gg x+pow x (l.length-1-s)*t*pv gg x)=pv l x+pv q x*pv gg x+(pow x (l.length-1-s)*t*pv gg x+pow x (l.length-1-s)*t*pv gg x) by ac_rfl,GF.eE,GF.add_zero]
theorem IZ{p d:List GF}{k:Nat}(hp:p.length<250)(hd:d.length<250)(hd0:aW d≠ [])(hk:80000<k):
 ∃R q:List GF,cU.f k (bi p) (bi d)=some (bi (aW q),bi R,true)∧R.length<(aW d).length∧aW R=R∧q.length≤p.length∧∀x,pv p x=pv q x*pv (aW d) x+pv R x:=by
 have hpos:=List.length_pos_iff.2 hd0
 obtain⟨s,hs⟩:∃s,(aW d).length=s+1:=⟨_,(Nat.succ_pred_eq_of_pos hpos).symm⟩
 have hle:=gP d
 have hlp:=gP p
 have htake:d.take (s+1)=aW d:=by rw[←hs];exact tQ d
 have hlast:=pY hd0
 rw[hs,Nat.add_sub_cancel]at hlast
 have hat:d.getD s 0=(aW d).getD s 0:=(jR d s).symm
 have e2:IntKind.i64.wrap (((bi (aW p)).length:Int)-(s:Int))=((aW p).length:Int)-(s:Int):=by rw[bi_length];exact ca (by omega) (by omega)
 have hm:max2 (((aW p).length:Int)-(s:Int)) 0=(((aW p).length-s:Nat):Int):=by unfold max2;split<;>omega
 have hmul:(aW p).length*(s+8)≤250*260:=Nat.mul_le_mul (by omega) (by omega)
 obtain⟨R,q',r1,r2,r3,r4,r5⟩:=Ao (g:=d) htake hs (by omega) (by omega) rfl hlast (by omega) (aW p).length (aW p) (List.replicate ((aW p).length-s) 0) k (aI _) (by omega) (by rw[List.length_replicate];omega) (by rw[List.length_replicate];omega) (by omega) (wH p) fun j hj=>by
  simp[bF,List.getElem?_replicate,hj]
 refine⟨R,q',?_,by omega,r2,by rw[r3,List.length_replicate];omega,fun x=>?_⟩
 ·unfold cU.f
  rw[qP (by omega) (by omega),hs,aJ,show((s+1:Nat):Int)-1=(s:Int) by omega,aQ (by omega),aF (by rw[bi_length];omega),cI,hat,sX hlast,aJ,lK (by omega) (by omega),aJ,e2,hm,aF (by omega),Int.toNat_natCast,gZ]
  exact r5
 ·have:=r4 x
  rw[ic,GF.zero_mul,GF.add_zero,fG]at this
  exact this
theorem IG{p d P:List GF}{k:Nat}(hp:p.length<120)(hd:d.length<120)(hP:P.length<120)(hd0:aW d≠ [])(h:∀x,pv p x=pv P x*pv d x)(hk:80000<k):oq.f k (bi p) (bi d)=some (bi (aW P),true):=by
 obtain⟨R,q,e,h1,h2,h3,h4⟩:=IZ (p:=p) (d:=d) (by omega) (by omega) hd0 hk
 have hpos:=List.length_pos_iff.2 hd0
 obtain⟨s,hs⟩:∃s,(aW d).length=s+1:=⟨_,(Nat.succ_pred_eq_of_pos hpos).symm⟩
 have hle:=gP d
 have hlast:=pY hd0
 rw[hs,Nat.add_sub_cancel]at hlast
 obtain⟨t1,t2⟩:=N4 hs hlast (r:=R) (q:=q) (P:=P) (by omega) (by omega) (by omega) h4 fun x=>by rw[h x,fG]
 have hR:R=[]:=by rw[←h2];exact uX t1
 unfold oq.f
 rw[e,aJ,hR,t2]
 rfl
end Go.Proofs.YtmhkpafkadijgaaGreatDoor.Gw
