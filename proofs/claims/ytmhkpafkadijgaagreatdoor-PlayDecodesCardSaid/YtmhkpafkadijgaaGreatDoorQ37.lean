/- A part of the proof of Rows.PlayDecodesCardSaid; the conditions are that card's own. -/
import Derived.Test.YtmhkpafkadijgaaGreatDoorQ18
import Derived.Test.YtmhkpafkadijgaaGreatDoorQ22
set_option linter.all false
set_option maxRecDepth 100000
namespace Go.Proofs.YtmhkpafkadijgaaGreatDoor.Gw
open Go.IntKind renaming wrap→I,i64→W
open Go Go.RowKit GF
theorem at0(l:List Int)(i:Nat):at_ 0 l (i:Int)=l.getD i 0:=rfl
theorem Si(x y:Int):eI.f x y=some (decide (x<y)):=by
 unfold eI.f nB.f;simp
def Y4(l:List Int)(i j:Nat):List Int:=(l.set i (l.getD j 0)).set j (l.getD i 0)
theorem SS(l:List Int)(i j:Nat):(Y4 l i j).length=l.length:=by simp[Y4]
theorem SU{l:List Int}{i j:Nat}(hi:i<l.length)(hj:j<l.length):(Y4 l i j).Perm l:=by
 have:=List.set_set_perm hi hj
 unfold Y4
 rw[bF,bF,C_ hi,C_ hj,Ld,Ld]
 exact this
theorem VH{l:List Int}{i j:Nat}(hi:i<l.length)(hj:j<l.length)(x:Nat):(Y4 l i j).getD x 0=if x=j then l.getD i 0 else if x=i then l.getD j 0 else l.getD x 0:=by
 unfold Y4
 simp only[bF,Lp,υ]
 by_cases h1:j=x
 ·subst h1;simp[hj]
 by_cases h2:i=x
 ·subst h2;simp[h1,hi,Z7 h1]
 simp[h1,h2,Z7 h1,Z7 h2]
theorem Uo{a b i:Nat}(hi:i<1000):∀(d:Nat)(l:List Int),a+d<l.length→l.length<1000→∃l':List Int,l'.Perm l∧∀(S:Option (Unit×List Int))(B:Nat),(∀k,B≤k→fA.l0 k (a:Int) (b:Int) l' ((i+1:Nat):Int)=S)→∀k,B+d+1≤k→fA.l1 k (a:Int) (b:Int) (i:Int) l ((a+d:Nat):Int)=S
 |0,l,h,hl=>⟨l,.refl l,fun S B hS k hk=>by
  obtain⟨k,rfl⟩:∃k',k=k'+1:=⟨k-1,a_⟩
  rw[fA.l1,aQ a_,bT a_];exact hS k a_⟩
 |d+1,l,h,hl=>by
  have wj:I W (((a+(d+1):Nat):Int)-1)=((a+d:Nat):Int):=by rw[ca a_ a_];omega
  have hst:∀k,fA.l1 (k+1) (a:Int) (b:Int) (i:Int) l ((a+(d+1):Nat):Int)=bif decide (l.getD (a+(d+1)) 0<l.getD (a+d) 0)then fA.l1 k (a:Int) (b:Int) (i:Int) (Y4 l (a+(d+1)) (a+d)) ((a+d:Nat):Int)else fA.l0 k (a:Int) (b:Int) l ((i+1:Nat):Int):=fun k=>by
   rw[fA.l1,bh a_,aF a_,wj,aF a_,at0,at0,Si,aJ,aF a_,aF a_,aF a_,aF η,n_,n_,bT a_];rfl
  by_cases hlt:l.getD (a+(d+1)) 0<l.getD (a+d) 0
  ·obtain⟨l',p1,p2⟩:=Uo (a:=a) (b:=b) hi d (Y4 l (a+(d+1)) (a+d)) (by rw[SS];omega) (by rw[SS];omega)
   refine⟨l',p1.trans (SU h a_),fun S B hS k hk=>?_⟩
   obtain⟨k,rfl⟩:∃k',k=k'+1:=⟨k-1,a_⟩
   rw[hst,bh hlt];exact p2 S B hS k a_
  refine⟨l,.refl l,fun S B hS k hk=>?_⟩
  obtain⟨k,rfl⟩:∃k',k=k'+1:=⟨k-1,a_⟩
  rw[hst,aQ hlt];exact hS k a_
theorem Un{a b:Nat}:∀(d i:Nat)(l:List Int),i+d=b→a≤i→b≤l.length→l.length<1000→∃s:List Int,s.Perm l∧∀k,d*(l.length+3)+1≤k→fA.l0 k (a:Int) (b:Int) l (i:Int)=some ((),s)
 |0,i,l,h,ha,hb,hl=>⟨l,.refl l,fun k hk=>by
  obtain⟨k,rfl⟩:∃k',k=k'+1:=⟨k-1,a_⟩
  rw[fA.l0,aQ a_]⟩
 |d+1,i,l,h,ha,hb,hl=>by
  obtain⟨q,rfl⟩:∃q,i=a+q:=⟨i-a,a_⟩
  have hmul:(d+1)*(l.length+3)=d*(l.length+3)+l.length+3:=O_
  obtain⟨l',p1,p2⟩:=Uo (a:=a) (b:=b) (i:=a+q) a_ q l a_ hl
  have hl':=p1.length_eq
  obtain⟨s,s1,s2⟩:=Un (a:=a) (b:=b) d (a+q+1) l' a_ a_ a_ a_
  rw[hl']at s2
  refine⟨s,s1.trans p1,fun k hk=>?_⟩
  obtain⟨k,rfl⟩:∃k',k=k'+1:=⟨k-1,a_⟩
  rw[fA.l0,bh a_]
  exact p2 _ _ s2 k a_
theorem TB{a b:Nat}{l:List Int}(hb:b≤l.length)(ha:a≤l.length+1)(hl:l.length≤30):∃s:List Int,s.Perm l∧∀k,1200≤k→fA.f k l (a:Int) (b:Int)=some ((),s):=by
 by_cases h:a+1≤b
 ·obtain⟨s,s1,s2⟩:=Un (a:=a) (b:=b) (b-(a+1)) (a+1) l a_ a_ hb a_
  have hm:(b-(a+1))*(l.length+3)≤30*33:=Φ a_ a_
  refine⟨s,s1,fun k hk=>?_⟩
  unfold fA.f
  rw[bT a_]
  exact s2 k a_
 refine⟨l,.refl l,fun k hk=>?_⟩
 obtain⟨k,rfl⟩:∃k',k=k'+1:=⟨k-1,a_⟩
 unfold fA.f
 rw[bT a_,fA.l0,aQ a_]
theorem UT{n:Nat}{l:List Int}(hn:n≤l.length)(hl:l.length≤30):∀(d i:Nat),i+d=n→1≤i→∃r:Bool,∀k,d+1≤k→fI.l1 k l 0 (n:Int) (i:Int)=some (r,l)
 |0,i,h,h1=>⟨true,fun k hk=>by
  obtain⟨k,rfl⟩:∃k',k=k'+1:=⟨k-1,a_⟩
  rw[fI.l1,aQ a_];unfold fI.j0;rw[bh a_]⟩
 |d+1,i,h,h1=>by
  have wj:I W ((i:Int)-1)=((i-1:Nat):Int):=by rw[ca a_ a_];omega
  have w0:I W ((n:Int)-0)=(n:Int):=by rw[ca a_ a_];omega
  by_cases hlt:l.getD i 0<l.getD (i-1) 0
  ·refine⟨false,fun k hk=>?_⟩
   obtain⟨k,rfl⟩:∃k',k=k'+1:=⟨k-1,a_⟩
   rw[fI.l1,bh a_,aF a_,wj,aF a_,at0,at0,Si,aJ,cH hlt]
   unfold fI.j0;rw[aQ a_,w0,bh a_]
  obtain⟨r,hr⟩:=UT hn hl d (i+1) a_ a_
  refine⟨r,fun k hk=>?_⟩
  obtain⟨k,rfl⟩:∃k',k=k'+1:=⟨k-1,a_⟩
  rw[fI.l1,bh a_,aF a_,wj,aF a_,at0,at0,Si,aJ,kg hlt,bT a_]
  exact hr k a_
theorem Xr{l:List Int}(h1:1≤l.length)(hl:l.length≤30):∃r:Bool,∀k,100≤k→fI.f k l 0 (l.length:Int)=some (r,l):=by
 obtain⟨r,hr⟩:=UT (aI l.length) hl (l.length-1) 1 a_ a_
 refine⟨r,fun k hk=>?_⟩
 obtain⟨k,rfl⟩:∃k',k=k'+1:=⟨k-1,a_⟩
 unfold fI.f;rw[fI.l0,show I W ((0:Int)+1)=((1:Nat):Int) from rfl]
 exact hr k a_
theorem Tw(v:Int):∀(M:List Int)(J:Nat),J≤M.length→(∀x,x<J→M.getD x 0<v)→(∀x,J≤x→x<M.length→¬M.getD x 0<v)→M.countP (fun x=>decide (x<v))=J
 | [],J,h,_,_=>by simp at h;simp[h]
 |a::M,0,h,h1,h2=>by
  have:=Tw v M 0 (jc _) (fun x hx=>absurd hx (ET _)) fun x _ hx=>by simpa using h2 (x+1) (jc _) l_
  have h0:¬a<v:=by simpa using h2 0 (aI _) j_
  rw[ZY,this,θ h0];rfl
 |a::M,J+1,h,h1,h2=>by
  have:=Tw v M J sW (fun x hx=>by simpa using h1 (x+1) a_) fun x hx hx2=>by simpa using h2 (x+1) a_ l_
  have h0:a<v:=by simpa using h1 0 a_
  rw[ZY,this,W_ h0];rfl
structure Inv (M:List Int) (v:Int) (i J:Nat):Prop where
 i1:1≤i
 ij:i≤J
 jn:J≤M.length
 hd:M.getD 0 0=v
 lo:∀x,1≤x→x<i→M.getD x 0<v
 hi:∀x,J≤x→x<M.length→¬M.getD x 0<v
theorem Inv.cnt{M:List Int}{v:Int}{i:Nat}(h:Inv M v i i):M.countP (fun x=>decide (x<v))=i-1:=by
 obtain⟨h1,h2,h3,h4,h5,h6⟩:=h
 match M,h3,h4,h5,h6 with
 | [],h3,_,_,_=>simp at h3;omega
 |a::M,h3,h4,h5,h6=>
  have h0:a=v:=by simpa using h4
  have:=Tw v M (i-1) (by simp at h3;omega) (fun x hx=>by simpa using h5 (x+1) a_ a_) fun x hx hx2=>by simpa using h6 (x+1) a_ l_
  rw[ZY,this,h0,θ a_];rfl
theorem Inv.up{M:List Int}{v:Int}{i J:Nat}(h:Inv M v i J)(hi:i<J)(hv:M.getD i 0<v):Inv M v (i+1) J where
 i1:=a_
 ij:=hi
 jn:=h.jn
 hd:=h.hd
 lo x h1 h2:=by
  by_cases e:x=i
  ·rw[e];exact hv
  exact h.lo x h1 a_
 hi:=h.hi
theorem Inv.down{M:List Int}{v:Int}{i J:Nat}(h:Inv M v i (J+1))(hi:i≤J)(hv:¬M.getD J 0<v):Inv M v i J where
 i1:=h.i1
 ij:=hi
 jn:=by have:=h.jn;omega
 hd:=h.hd
 lo:=h.lo
 hi x h1 h2:=by
  by_cases e:x=J
  ·rw[e];exact hv
  exact h.hi x a_ h2
theorem Inv.swap{M:List Int}{v:Int}{i J:Nat}(h:Inv M v i (J+1))(hij:i<J)(h1:¬M.getD i 0<v)(h2:M.getD J 0<v):Inv (Y4 M i J) v (i+1) J:=by
 obtain⟨a1,a2,a3,a4,a5,a6⟩:=h
 have hg:=VH (l:=M) (i:=i) (j:=J) a_ a_
 refine⟨a_,a_,by rw[SS];omega,?_,fun x x1 x2=>?_,fun x x1 x2=>?_⟩
 ·rw[hg,I_ a_,I_ a_,a4]
 ·rw[hg,I_ a_]
  by_cases e:x=i
  ·rw[M_ e];exact h2
  rw[I_ e];exact a5 x x1 a_
 rw[SS]at x2
 rw[hg]
 by_cases e:x=J
 ·rw[M_ e];exact h1
 rw[I_ e,I_ a_];exact a6 x a_ x2
theorem UR{M:List Int}{v:Int}{J:Nat}(hn:M.length<1000):∀(d i:Nat),i+d=J→Inv M v i J→∃i',Inv M v i' J∧i≤i'∧(i'<J→¬M.getD i' 0<v)∧∀(S:Option ((Int×Bool)×List Int))(B:Nat),(∀k,B≤k→ck.l4 k 0 M (i':Int) ((J:Int)-1)=S)→∀k,B+d+1≤k→ck.l3 k 0 M ((J:Int)-1) (i:Int)=S
 |0,i,h,hI=>⟨i,hI,aI _,fun h2=>a_,fun S B hS k hk=>by
  obtain⟨k,rfl⟩:∃k',k=k'+1:=⟨k-1,a_⟩
  rw[ck.l3,aQ a_];unfold ck.j3;exact hS k a_⟩
 |d+1,i,h,hI=>by
  have hj:=hI.jn
  have hst:∀k,ck.l3 (k+1) 0 M ((J:Int)-1) (i:Int)=bif decide (M.getD i 0<v)then ck.l3 k 0 M ((J:Int)-1) ((i+1:Nat):Int)else ck.l4 k 0 M (i:Int) ((J:Int)-1):=fun k=>by
   rw[ck.l3,bh a_,aF a_,aF a_,at0,show at_ 0 M 0=v from hI.hd,Si,aJ,bT a_];rfl
  by_cases hv:M.getD i 0<v
  ·obtain⟨i',q1,q2,q3,q4⟩:=UR hn d (i+1) a_ (hI.up a_ hv)
   refine⟨i',q1,a_,q3,fun S B hS k hk=>?_⟩
   obtain⟨k,rfl⟩:∃k',k=k'+1:=⟨k-1,a_⟩
   rw[hst,bh hv];exact q4 S B hS k a_
  refine⟨i,hI,aI _,fun _=>hv,fun S B hS k hk=>?_⟩
  obtain⟨k,rfl⟩:∃k',k=k'+1:=⟨k-1,a_⟩
  rw[hst,aQ hv];exact hS k a_
theorem US{M:List Int}{v:Int}{i:Nat}(hn:M.length<1000):∀(d J:Nat),i+d=J→Inv M v i J→∃J',Inv M v i J'∧J'≤J∧(i<J'→M.getD (J'-1) 0<v)∧∀(S:Option ((Int×Bool)×List Int))(B:Nat),(∀k,B≤k→ck.j4 (ck.l2 k) k 0 M (i:Int) ((J':Int)-1)=S)→∀k,B+d+1≤k→ck.l4 k 0 M (i:Int) ((J:Int)-1)=S
 |0,J,h,hI=>⟨J,hI,aI _,fun h2=>a_,fun S B hS k hk=>by
  obtain⟨k,rfl⟩:∃k',k=k'+1:=⟨k-1,a_⟩
  rw[ck.l4,aQ a_];exact hS k a_⟩
 |d+1,0,h,hI=>a_
 |d+1,J+1,h,hI=>by
  have hj:=hI.jn
  have ej:((J+1:Nat):Int)-1=(J:Int):=a_
  have wj:I W ((J:Int)-1)=(J:Int)-1:=ca a_ a_
  have hst:∀k,ck.l4 (k+1) 0 M (i:Int) ((J+1:Nat)-1:Int)=bif !decide (M.getD J 0<v)then ck.l4 k 0 M (i:Int) ((J:Int)-1)else ck.j4 (ck.l2 k) k 0 M (i:Int) (J:Int):=fun k=>by
   rw[ej,ck.l4,bh a_,aF a_,aF a_,at0,show at_ 0 M 0=v from hI.hd,Si,aJ,wj]
  by_cases hv:M.getD J 0<v
  ·refine⟨J+1,hI,aI _,fun _=>hv,fun S B hS k hk=>?_⟩
   obtain⟨k,rfl⟩:∃k',k=k'+1:=⟨k-1,a_⟩
   rw[hst,cH hv]
   have:=hS k a_
   rw[ej]at this;exact this
  obtain⟨J',q1,q2,q3,q4⟩:=US hn d J a_ (hI.down a_ hv)
  refine⟨J',q1,a_,q3,fun S B hS k hk=>?_⟩
  obtain⟨k,rfl⟩:∃k',k=k'+1:=⟨k-1,a_⟩
  rw[hst,kg hv];exact q4 S B hS k a_
theorem UQ{v:Int}{n:Nat}(hn:n<1000):∀(D:Nat)(M:List Int)(i J:Nat),J≤i+D→M.length=n→Inv M v i J→∃R:List Int,R.Perm M∧∀k,(D+1)*(2*n+6)≤k→ck.l2 k 0 M (i:Int) ((J:Int)-1)=some (((((M.countP fun x=>decide (x<v)):Nat):Int),false),R)
 |D,M,i,J,h,hM,hI=>by
  have hij:=hI.ij;have hjn:=hI.jn
  obtain⟨i',q1,q2,q3,q4⟩:=UR a_ (J-i) i a_ hI
  have hij':=q1.ij
  obtain⟨J',r1,r2,r3,r4⟩:=US a_ (J-i') J a_ q1
  have hij2:=r1.ij
  have hfu:∀B,B+2*n+3≤(D+1)*(2*n+6)→∀S,(∀k,B≤k→ck.j4 (ck.l2 k) k 0 M (i':Int) ((J':Int)-1)=S)→∀k,(D+1)*(2*n+6)≤k→ck.l2 k 0 M (i:Int) ((J:Int)-1)=S:=fun B hB S hS k hk=>by
   obtain⟨k,rfl⟩:∃k',k=k'+1:=⟨k-1,a_⟩
   rw[ck.l2]
   exact q4 S (B+(J-i')+1) (r4 S B hS) k a_
  by_cases hlt:i'<J'
  ·have hv1:=q3 a_
   have hv2:=r3 hlt
   obtain⟨J2,rfl⟩:∃J2,J'=J2+1:=⟨J'-1,a_⟩
   rw[FK]at hv2
   have hne:i'≠J2:=fun e=>hv1 (by rw[e];exact hv2)
   have hI2:=r1.swap a_ hv1 hv2
   have hjn2:=r1.jn
   match D,h,hfu with
   |0,h,_=>omega
   |D+1,h,hfu=>
    obtain⟨R,s1,s2⟩:=UQ hn D (Y4 M i' J2) (i'+1) J2 a_ (by rw[SS];exact hM) hI2
    have hp:=SU (l:=M) (i:=i') (j:=J2) a_ a_
    rw[hp.countP_eq]at s2
    refine⟨R,s1.trans hp,hfu ((D+1)*(2*n+6)) (by rw[V_ (D+1)];omega) _ fun k hk=>?_⟩
    have ej:((J2+1:Nat):Int)-1=(J2:Int):=a_
    have wj:I W ((J2:Int)-1)=(J2:Int)-1:=ca a_ a_
    unfold ck.j4
    rw[ej,aQ a_,aF a_,aF a_,aF a_,aF η,bT a_,wj,at0,at0,n_,n_]
    exact s2 k hk
  obtain rfl:i'=J':=a_
  have hc:=r1.cnt
  have h1:=r1.i1
  have hjn2:=r1.jn
  have ej:((i':Nat):Int)-1=((i'-1:Nat):Int):=a_
  refine⟨Y4 M (i'-1) 0,SU a_ a_,hfu 0 O_ _ fun k hk=>?_⟩
  unfold ck.j4
  rw[bh a_,ej]
  unfold ck.j2
  rw[aF a_,aF a_,aF a_,aF η,hc];rfl
section
variable{l M:List Int}{v:Int}{p:Nat}(hM:(l.set (0:Int).toNat (at_ 0 l (p:Int))).set (p:Int).toNat (at_ 0 l 0)=M)
include hM
theorem UO{n:Nat}(hn:M.length<1000)(hnl:n=M.length):∀(d i:Nat),i+d=n→Inv M v i n→∃i',Inv M v i' n∧(i'<n→¬M.getD i' 0<v)∧∀(S:Option ((Int×Bool)×List Int))(B:Nat),(∀k,B≤k→ck.l1 k l 0 (p:Int) (i':Int) ((n:Int)-1)=S)→∀k,B+d+1≤k→ck.l0 k l 0 (n:Int) (p:Int) (i:Int)=S
 |0,i,h,hI=>⟨i,hI,fun h2=>a_,fun S B hS k hk=>by
  obtain⟨k,rfl⟩:∃k',k=k'+1:=⟨k-1,a_⟩
  have w:I W ((n:Int)-1)=(n:Int)-1:=ca a_ a_
  rw[ck.l0,w,aQ a_];unfold ck.j0;rw[w];exact hS k a_⟩
 |d+1,i,h,hI=>by
  have hj:=hI.jn
  have w:I W ((n:Int)-1)=(n:Int)-1:=ca a_ a_
  have hst:∀k,ck.l0 (k+1) l 0 (n:Int) (p:Int) (i:Int)=bif decide (M.getD i 0<v)then ck.l0 k l 0 (n:Int) (p:Int) ((i+1:Nat):Int)else ck.l1 k l 0 (p:Int) (i:Int) ((n:Int)-1):=fun k=>by
   rw[ck.l0,hM,w,bh a_,aF a_,aF a_,at0,show at_ 0 M 0=v from hI.hd,Si,aJ,bT a_]
   unfold ck.j0;rw[w]
  by_cases hv:M.getD i 0<v
  ·obtain⟨i',q1,q3,q4⟩:=UO hn hnl d (i+1) a_ (hI.up a_ hv)
   refine⟨i',q1,q3,fun S B hS k hk=>?_⟩
   obtain⟨k,rfl⟩:∃k',k=k'+1:=⟨k-1,a_⟩
   rw[hst,bh hv];exact q4 S B hS k a_
  refine⟨i,hI,fun _=>hv,fun S B hS k hk=>?_⟩
  obtain⟨k,rfl⟩:∃k',k=k'+1:=⟨k-1,a_⟩
  rw[hst,aQ hv];exact hS k a_
theorem UP{i:Nat}(hn:M.length<1000):∀(d J:Nat),i+d=J→Inv M v i J→∃J',Inv M v i J'∧J'≤J∧(i<J'→M.getD (J'-1) 0<v)∧∀(S:Option ((Int×Bool)×List Int))(B:Nat),(∀k,B≤k→ck.j1 (ck.l2 k) k l 0 (p:Int) (i:Int) ((J':Int)-1)=S)→∀k,B+d+1≤k→ck.l1 k l 0 (p:Int) (i:Int) ((J:Int)-1)=S
 |0,J,h,hI=>⟨J,hI,aI _,fun h2=>a_,fun S B hS k hk=>by
  obtain⟨k,rfl⟩:∃k',k=k'+1:=⟨k-1,a_⟩
  rw[ck.l1,aQ a_];exact hS k a_⟩
 |d+1,0,h,hI=>a_
 |d+1,J+1,h,hI=>by
  have hj:=hI.jn
  have ej:((J+1:Nat):Int)-1=(J:Int):=a_
  have wj:I W ((J:Int)-1)=(J:Int)-1:=ca a_ a_
  have hst:∀k,ck.l1 (k+1) l 0 (p:Int) (i:Int) ((J+1:Nat)-1:Int)=bif !decide (M.getD J 0<v)then ck.l1 k l 0 (p:Int) (i:Int) ((J:Int)-1)else ck.j1 (ck.l2 k) k l 0 (p:Int) (i:Int) (J:Int):=fun k=>by
   rw[ej,ck.l1,hM,bh a_,aF a_,aF a_,at0,show at_ 0 M 0=v from hI.hd,Si,aJ,wj]
  by_cases hv:M.getD J 0<v
  ·refine⟨J+1,hI,aI _,fun _=>hv,fun S B hS k hk=>?_⟩
   obtain⟨k,rfl⟩:∃k',k=k'+1:=⟨k-1,a_⟩
   rw[hst,cH hv]
   have:=hS k a_
   rw[ej]at this;exact this
  obtain⟨J',q1,q2,q3,q4⟩:=UP hn d J a_ (hI.down a_ hv)
  refine⟨J',q1,a_,q3,fun S B hS k hk=>?_⟩
  obtain⟨k,rfl⟩:∃k',k=k'+1:=⟨k-1,a_⟩
  rw[hst,kg hv];exact q4 S B hS k a_
end
theorem Xp{l:List Int}{p:Nat}(hp:p<l.length)(hl:l.length≤30):∃(f:Bool)(R:List Int),R.Perm l∧∀k,2500≤k→ck.f k l 0 (l.length:Int) (p:Int)=some (((((l.countP fun x=>decide (x<l.getD p 0)):Nat):Int),f),R):=by
 obtain⟨M,hM⟩:∃M,(l.set (0:Int).toNat (at_ 0 l (p:Int))).set (p:Int).toNat (at_ 0 l 0)=M:=⟨_,rfl⟩
 have hMs:M=Y4 l 0 p:=hM.symm
 have hMp:M.Perm l:=by rw[hMs];exact SU a_ hp
 have hMl:=hMp.length_eq
 have hc0:∀v:Int,l.countP (fun x=>decide (x<v))=M.countP fun x=>decide (x<v):=fun v=>(hMp.countP_eq _).symm
 obtain⟨v,hv⟩:∃v,v=l.getD p 0:=⟨_,rfl⟩
 rw[←hv,hc0]
 have hI:Inv M v 1 l.length:=⟨aI _,a_,a_,by
  rw[hMs,VH a_ hp]
  by_cases e:0=p
  ·rw[M_ e,hv,←e]
  rw[I_ e,M_ rfl,hv],fun x h1 h2=>a_,fun x h1 h2=>a_⟩
 obtain⟨i',q1,q3,q4⟩:=UO hM a_ hMl.symm (l.length-1) 1 a_ hI
 have hij':=q1.ij
 obtain⟨J',r1,r2,r3,r4⟩:=UP hM a_ (l.length-i') l.length a_ q1
 have hij2:=r1.ij
 have hjn2:=r1.jn
 have hb:(l.length+1)*(2*l.length+6)≤31*66:=Φ a_ a_
 have hfu:∀S,(∀k,2300≤k→ck.j1 (ck.l2 k) k l 0 (p:Int) (i':Int) ((J':Int)-1)=S)→∀k,2500≤k→ck.f k l 0 (l.length:Int) (p:Int)=S:=fun S hS k hk=>by
  unfold ck.f
  rw[aF a_,aF a_,aF a_,aF η,show I W ((0:Int)+1)=((1:Nat):Int) from rfl]
  exact q4 S (2300+(l.length-i')+1) (r4 S 2300 hS) k a_
 by_cases hlt:i'<J'
 ·have hv1:=q3 a_
  have hv2:=r3 hlt
  obtain⟨J2,rfl⟩:∃J2,J'=J2+1:=⟨J'-1,a_⟩
  rw[FK]at hv2
  have hne:i'≠J2:=fun e=>hv1 (by rw[e];exact hv2)
  have hI2:=r1.swap a_ hv1 hv2
  obtain⟨R,s1,s2⟩:=UQ (n:=l.length) a_ l.length (Y4 M i' J2) (i'+1) J2 a_ (by rw[SS];exact hMl) hI2
  have hpp:=SU (l:=M) (i:=i') (j:=J2) a_ a_
  rw[hpp.countP_eq]at s2
  refine⟨false,R,(s1.trans hpp).trans hMp,hfu _ fun k hk=>?_⟩
  have ej:((J2+1:Nat):Int)-1=(J2:Int):=a_
  have wj:I W ((J2:Int)-1)=(J2:Int)-1:=ca a_ a_
  unfold ck.j1
  rw[hM,ej,aQ a_,aF a_,aF a_,aF a_,aF η,bT a_,wj,at0,at0,n_,n_]
  exact s2 k a_
 obtain rfl:i'=J':=a_
 have hc:=r1.cnt
 have h1:=r1.i1
 have ej:((i':Nat):Int)-1=((i'-1:Nat):Int):=a_
 refine⟨true,Y4 M (i'-1) 0,(SU a_ a_).trans hMp,hfu _ fun k hk=>?_⟩
 unfold ck.j1
 rw[hM,bh a_,ej,aF a_,aF a_,aF a_,aF η,hc];rfl
theorem TH{l:List Int}{lim:Int}{a b:Nat}{x y:Bool}(hb:b≤l.length)(ha:a≤b+1)(hab:b≤a+12)(hl:l.length≤30):∃s:List Int,s.Perm l∧∀k,1300≤k→bW.l0 k lim l (a:Int) (b:Int) x y=some ((),s):=by
 obtain⟨s,s1,s2⟩:=TB (a:=a) hb a_ hl
 refine⟨s,s1,fun k hk=>?_⟩
 obtain⟨k,rfl⟩:∃k',k=k'+1:=⟨k-1,a_⟩
 have w:I W ((b:Int)-(a:Int))=(b:Int)-(a:Int):=ca a_ a_
 rw[bW.l0,w,bh a_,s2 k a_];rfl
theorem Xq{l:List Int}{lim h:Int}{p:Nat}(hl:l.length≤30)(h12:12<l.length)(hlim:lim≠0)(hp:p<l.length)(hpv:dY.f l 0 (l.length:Int)=some ((p:Int),h))(hh:h≠2)(hm:(l.countP fun x=>decide (x<l.getD p 0))≤12)(hm2:l.length≤(l.countP fun x=>decide (x<l.getD p 0))+13):∃s:List Int,s.Perm l∧∀k,5000≤k→bW.f k l 0 (l.length:Int) lim=some ((),s):=by
 obtain⟨f,R,r1,r2⟩:=Xp hp hl
 obtain⟨pr,hpr⟩:=Xr (l:=l) a_ hl
 have hRl:=r1.length_eq
 have hmn:(l.countP fun x=>decide (x<l.getD p 0))<l.length:=by
  have h1:=List.countP_le_length (p:=fun x=>decide (x<l.getD p 0)) (l:=l)
  rcases Me (l.countP fun x=>decide (x<l.getD p 0)) l.length with h|h
  ·exact h
  have:=List.countP_eq_length.1 (Nat.le_antisymm h1 h) (l.getD p 0) (by simp[bF,hp])
  simp at this
 generalize(l.countP fun x=>decide (x<l.getD p 0))=m at r2 hm hm2 hmn
 have w0:I W ((l.length:Int)-0)=(l.length:Int):=by rw[ca a_ a_];omega
 have wm:I W ((m:Int)-0)=(m:Int):=by rw[ca a_ a_];omega
 have wr:I W ((l.length:Int)-((m+1:Nat):Int))=(l.length:Int)-((m+1:Nat):Int):=ca a_ a_
 have hboth:∃s:List Int,s.Perm l∧∀k,4000≤k→bW.j2 (bW.l1 k) (bW.l2 k) k lim 0 (l.length:Int) ((p:Int),h) l false=some ((),s):=by
  obtain⟨A,a1,a2⟩:=TB (l:=R) (a:=0) (b:=m) a_ a_ a_
  obtain⟨A',a1',a2'⟩:=TB (l:=R) (a:=m+1) (b:=l.length) a_ a_ a_
  have hAl:=a1.length_eq
  have hAl':=a1'.length_eq
  by_cases hc:(m:Int)<I W ((l.length:Int)-(m:Int))
  ·obtain⟨s,s1,s2⟩:=TH (l:=A) (lim:=lim) (a:=m+1) (b:=l.length) (x:=decide (I W (Int.tdiv (I W ((l.length:Int)-0)) 8)≤I W ((m:Int)-0))) (y:=f) a_ a_ a_ a_
   refine⟨s,s1.trans (a1.trans r1),fun k hk=>?_⟩
   obtain⟨k,rfl⟩:∃k',k=k'+1:=⟨k-1,a_⟩
   unfold bW.j2
   rw[U_,r2 (k+1) a_,aJ]
   simp only
   rw[wm,bh hc,bW.l1]
   simp only
   rw[wm,bh a_,show fA.f k R 0 (m:Int)=some ((),A) from a2 k a_,aJ,bT a_]
   simp only
   rw[wm]at s2
   exact s2 k a_
  obtain⟨s,s1,s2⟩:=TH (l:=A') (lim:=lim) (a:=0) (b:=m) (x:=decide (I W (Int.tdiv (I W ((l.length:Int)-0)) 8)≤I W ((l.length:Int)-(m:Int)))) (y:=f) a_ a_ a_ a_
  refine⟨s,s1.trans (a1'.trans r1),fun k hk=>?_⟩
  obtain⟨k,rfl⟩:∃k',k=k'+1:=⟨k-1,a_⟩
  unfold bW.j2
  rw[U_,r2 (k+1) a_,aJ]
  simp only
  rw[wm,aQ hc,bW.l2]
  simp only
  rw[bT a_,wr,bh a_,a2' k a_,aJ]
  exact s2 k a_
 obtain⟨s,s1,s2⟩:=hboth
 have hj0:∀k,4000≤k→bW.j0 (bW.l1 k) (bW.l2 k) k lim 0 (l.length:Int) ((p:Int),h) l=some ((),s):=fun k hk=>by
  unfold bW.j0
  rw[aQ a_];exact s2 k hk
 have hst:∀k,4000≤k→bW.f (k+1) l 0 (l.length:Int) lim=bW.j1 (bW.l1 k) (bW.l2 k) k lim l 0 (l.length:Int) ((p:Int),h) (decide (h=1)):=fun k hk=>by
  unfold bW.f
  rw[bW.l0,w0,aQ a_,aQ hlim,hpv,aJ]
  simp only[ν,U_,EK]
  rw[aQ hh]
 by_cases h1:h=1
 ·cases pr with
  |true=>
   refine⟨l,.refl l,fun k hk=>?_⟩
   obtain⟨k,rfl⟩:∃k',k=k'+1:=⟨k-1,a_⟩
   rw[hst k a_]
   unfold bW.j1
   rw[W_ h1,EK,hpr k a_,aJ];rfl
  |false=>
   refine⟨s,s1,fun k hk=>?_⟩
   obtain⟨k,rfl⟩:∃k',k=k'+1:=⟨k-1,a_⟩
   rw[hst k a_]
   unfold bW.j1
   rw[W_ h1,EK,hpr k a_,aJ]
   exact hj0 k a_
 refine⟨s,s1,fun k hk=>?_⟩
 obtain⟨k,rfl⟩:∃k',k=k'+1:=⟨k-1,a_⟩
 rw[hst k a_]
 unfold bW.j1
 rw[θ h1,U_]
 exact hj0 k a_
def RQ{α:Type}:Nat→List α→List (List α)
 |_,[]=> [[]]
 |0,x::l=> [x::l]
 |t+1,x::l=>(RQ (t+1) l).map (x:: ·)++RQ t l
theorem T4{α:Type}(q:α→Bool):∀(l:List α)(t:Nat),l.length≤(l.filter q).length+t→l.filter q∈RQ t l
 | [],t,_=>by simp[RQ]
 |x::l,0,h=>by
  have hle:=xJ q (x::l)
  have:(x::l).filter q=x::l:=List.filter_eq_self.2 (List.length_filter_eq_length_iff.1 a_)
  rw[this];simp[RQ]
 |x::l,t+1,h=>by
  rw[RQ,Le]
  rw[Le]at h
  by_cases hx:q x=true
  ·rw[M_ hx]at h⊢
   exact FC _ (uV.2 ⟨_,T4 q l (t+1) (by simp at h;omega),rfl⟩)
  rw[I_ hx]at h⊢
  exact Gx _ (T4 q l t (by simp at h;omega))
noncomputable def LS(l:List Nat):Nat→(List Nat→Bool)→Bool:=List.rec (fun _ P=>P []) (fun x l r t P=>Nat.rec (P (x::l)) (fun t' _=>Bool.and (r (Nat.succ t') (fun y=>P (x::y))) (r t' P)) t) l
theorem Sm(t a:Nat)(l:List Nat)(P:List Nat→Bool)(h1:LS l (t+1) (fun y=>P (a::y))=true)(h2:LS l t P=true):LS (a::l) (t+1) P=true:=(S_ _ _).mpr ⟨h1,h2⟩
theorem Sd:∀(l:List Nat)(t:Nat)(P:List Nat→Bool),LS l t P=true→∀x∈RQ t l,P x=true
 | [],t,P,h,x,hx=>by
  simp[RQ]at hx
  rw[hx];exact h
 |a::l,0,P,h,x,hx=>by
  simp[RQ]at hx
  rw[hx];exact h
 |a::l,t+1,P,h,x,hx=>by
  have h2:Bool.and (LS l (t+1) fun y=>P (a::y)) (LS l t P)=true:=h
  obtain⟨h3,h4⟩:=(S_ _ _).mp h2
  rw[RQ,dO]at hx
  rcases hx with hx|hx
  ·obtain⟨y,hy,rfl⟩:=uV.1 hx
   exact Sd l (t+1) (fun y=>P (a::y)) h3 y hy
  exact Sd l t P h4 x hx
noncomputable def len(l:List Nat):Nat:=List.rec 0 (fun _ _ r=>Nat.add r 1) l
theorem SX:∀l,len l=l.length
 | []=>rfl
 |x::l=>by show Nat.add (len l) 1=_;rw[SX l];rfl
noncomputable def nth(l:List Nat):Nat→Nat:=List.rec (fun _=>0) (fun x _ r i=>Nat.rec x (fun j _=>r j) i) l
theorem Td:∀l i,nth l i=l.getD i 0
 | [],i=>by simp[nth]
 |x::l,0=>rfl
 |x::l,i+1=>by show nth l i=_;rw[Td l i];simp
def S6(x:Int):List Int→List Int
 | []=> [x]
 |y::l=>bif decide (x≤y)then x::y::l else y::S6 x l
theorem Um(x:Int):∀l,(S6 x l).Perm (x::l)
 | []=> .refl _
 |y::l=>by
  rw[S6]
  cases decide (x≤y)with
  |true=>exact .refl _
  |false=>exact((Um x l).cons y).trans (.swap x y l)
def SR:List Int→List Int
 | []=> []
 |x::l=>S6 x (SR l)
theorem VD:∀l,(SR l).Perm l
 | []=> .refl _
 |x::l=>(Um x (SR l)).trans ((VD l).cons x)
def lm(n:Nat):Int:=[0,1,2,2,3,3,3,3,4,4,4,4,4,4,4,4,5,5,5,5,5,5,5].getD n 0
def PW:List Nat:=[1,2,4,8,16,32,64,128,29,58,116,232,205,135,19,38,76,152,45,90,180,117]
def pv3(lt:Nat→Nat→Bool)(s u x:Nat):Nat×Nat:=bif lt x u then(u,s+1)else(x,s)
def pv2(lt:Nat→Nat→Bool)(q s u w:Nat):Nat×Nat:=bif lt (3*q) w then pv3 lt (s+1) u (3*q)else pv3 lt s u w
def pv1(lt:Nat→Nat→Bool)(q:Nat):Nat×Nat:=bif lt (2*q) q then pv2 lt q 1 (2*q) q else pv2 lt q 0 q (2*q)
def qv3(lt:Nat→Nat→Bool)(s u x:Nat):Nat×Nat:=bif lt x u then(u,Nat.add s 1)else(x,s)
def qv2(lt:Nat→Nat→Bool)(q s u w:Nat):Nat×Nat:=bif lt (Nat.mul 3 q) w then qv3 lt (Nat.add s 1) u (Nat.mul 3 q)else qv3 lt s u w
def qv1(lt:Nat→Nat→Bool)(q:Nat):Nat×Nat:=bif lt (Nat.mul 2 q) q then qv2 lt q 1 (Nat.mul 2 q) q else qv2 lt q 0 q (Nat.mul 2 q)
theorem XF(lt:Nat→Nat→Bool)(q:Nat):qv1 lt q=pv1 lt q:=rfl
def RS(s:Nat):Int:=bif decide (s=0)then 1 else 0
theorem WG(s:Nat):RS s≠2:=by unfold RS;cases decide (s=0)<;>decide
section
variable{l:List Int}(hl:l.length≤30)(h8:8≤l.length)
theorem UU{u s x w:Nat}(hu:u<l.length)(hx:x<l.length)(hs:s≤2):dY.j2 l (u:Int) (s:Int) (x:Int) (w:Int)=some (((pv3 (fun i j=>decide (l.getD i 0<l.getD j 0)) s u x).1:Int),RS (pv3 (fun i j=>decide (l.getD i 0<l.getD j 0)) s u x).2):=by
 have hj0:∀s p:Nat,s≤3→dY.j0 (s:Int) (p:Int)=some ((p:Int),RS s):=fun s p h=>by
  unfold dY.j0 RS
  by_cases e:s=0
  ·rw[bh a_,bh e]
  rw[aQ a_,aQ a_,aQ e]
 unfold dY.j2 dY.j3 pv3
 rw[aF a_,aF a_,at0,at0,Si,aJ]
 by_cases h:l.getD x 0<l.getD u 0
 ·rw[bh h,bh h,bT a_];exact hj0 (s+1) u a_
 rw[aQ h,aQ h];exact hj0 s x a_
include hl h8 in
theorem Xs:dY.f l 0 (l.length:Int)=some (((pv1 (fun i j=>decide (l.getD i 0<l.getD j 0)) (l.length/4)).1:Int),RS (pv1 (fun i j=>decide (l.getD i 0<l.getD j 0)) (l.length/4)).2):=by
 obtain⟨q,hq⟩:∃q,q=l.length/4:=⟨_,rfl⟩
 have w0:I W ((l.length:Int)-0)=(l.length:Int):=by rw[ca a_ a_];omega
 have wq:I W (Int.tdiv (l.length:Int) 4)=(q:Int):=by
  have:Int.tdiv (l.length:Int) 4=(q:Int):=by rw[EP a_];omega
  rw[this,iB a_]
 have w1:I W (0+I W ((q:Int)*1))=((q:Nat):Int):=by rw[ca (x:=(q:Int)*1) a_ a_,ca a_ a_];omega
 have w2:I W (0+I W ((q:Int)*2))=((2*q:Nat):Int):=by rw[ca (x:=(q:Int)*2) a_ a_,ca a_ a_];omega
 have w3:I W (0+I W ((q:Int)*3))=((3*q:Nat):Int):=by rw[ca (x:=(q:Int)*3) a_ a_,ca a_ a_];omega
 have hj1:∀s u w:Nat,s≤1→u<l.length→w<l.length→dY.j1 l 0 (l.length:Int) (s:Int) (u:Int) (w:Int)=some (((pv2 (fun i j=>decide (l.getD i 0<l.getD j 0)) q s u w).1:Int),RS (pv2 (fun i j=>decide (l.getD i 0<l.getD j 0)) q s u w).2):=fun s u w hs hu hw=>by
  unfold dY.j1 pv2
  rw[w0,wq,w3,aF a_,aF a_,at0,at0,Si,aJ]
  by_cases h:l.getD (3*q) 0<l.getD w 0
  ·rw[bh h,bh h,bT a_];exact UU hu a_ a_
  rw[aQ h,aQ h];exact UU hu hw a_
 rw[←hq]
 unfold dY.f pv1
 rw[w0,wq,w1,w2,bh a_,aQ a_,aF a_,aF a_,at0,at0,Si,aJ]
 by_cases h:l.getD (2*q) 0<l.getD q 0
 ·rw[bh h,bh h];exact hj1 1 (2*q) q a_ a_ a_
 rw[aQ h,aQ h];exact hj1 0 q (2*q) a_ a_ a_
end
theorem XA(lt:Nat→Nat→Bool){q n:Nat}(h0:0<n)(h:3*q<n):(pv1 lt q).1<n:=by
 unfold pv1 pv2 pv3
 cases lt (2*q) q<;>cases lt (3*q) q<;>cases lt (3*q) (2*q)<;>cases lt q (2*q)<;>simp only[EK,U_]<;>omega
noncomputable def SL(v:Nat)(l:List Nat):Nat:=List.rec 0 (fun x _ r=>cond (Nat.ble v x) r (Nat.add r 1)) l
def full(k:Nat)(l:List Int):Bool:=match bW.f k l 0 (l.length:Int) (lm l.length)with
 |some (_,s)=>decide (s=SR l)
 |none=>false
noncomputable def UN(m n:Nat):Bool:=Bool.and (Nat.ble m 12) (Nat.ble n (Nat.add m 13))
noncomputable def TG(n:Nat)(l:List Nat):Bool:=UN (SL (nth l (qv1 (fun i j=>!Nat.ble (nth l j) (nth l i)) (Nat.div n 4)).1) l) n
noncomputable def Ro(k:Nat)(l:List Nat):Bool:=Bool.or (Nat.ble (len l) 12) (Bool.or (TG (len l) l) (full k (l.map fun n:Nat=>(n:Int))))
theorem T3{α β:Type}(f:α→β):∀(l:List α)(t:Nat),RQ t (l.map f)=(RQ t l).map (List.map f)
 | [],t=>by simp[RQ]
 |x::l,0=>by simp[RQ]
 |x::l,t+1=>by rw[ι,RQ,RQ,T3 f l (t+1),T3 f l t];simp
theorem XE{N:Nat}(h:N≤22):(List.range N).map (fun i=>PW.getD i 0)=PW.take N:=by
 have hc:(List.range 23).all (fun N=>decide ((List.range N).map (fun i=>PW.getD i 0)=PW.take N))=true:=R_
 exact aT (Y_.1 hc N (φ.2 a_))
theorem XC{i:Nat}(h:i<22):(pow al i).1=PW.getD i 0:=by
 have hc:(List.range 22).all (fun i=>decide ((pow al i).1=PW.getD i 0))=true:=R_
 exact aT (Y_.1 hc i (φ.2 h))
theorem Uy{n:Nat}(h:n≤22):dx.f (IntKind.u64.wrap (n:Int))=some (lm n)∧(12<n→lm n≠0):=by
 have hc:(List.range 23).all (fun n=>decide (dx.f (IntKind.u64.wrap (n:Int))=some (lm n)∧(12<n→lm n≠0)))=true:=R_
 exact aT (Y_.1 hc n (φ.2 a_))
theorem UC(v:Nat):∀l:List Nat,(l.map fun n:Nat=>(n:Int)).countP (fun x=>decide (x<(v:Int)))=SL v l
 | []=>rfl
 |x::l=>by
  rw[ι,ZY,UC v l,show SL v (x::l)=cond (Nat.ble v x) (SL v l) (Nat.add (SL v l) 1) from rfl]
  by_cases h:v≤x
  ·rw[aah h,EK,θ a_];rfl
  rw[show Nat.ble v x=false from by cases e:Nat.ble v x with|false=>rfl|true=>exact absurd (Z_ e) h,U_,W_ a_];rfl
theorem Tv(l:List Nat)(i:Nat):(l.map fun n:Nat=>(n:Int)).getD i 0=((l.getD i 0:Nat):Int):=by
 simp only[bF,Lr]
 cases l[i]? <;>rfl
theorem VY{s:List Int}(h:s.Nodup)(i:Nat)(h0:0<i)(hi:i<s.length):at_ 0 s (i:Int)≠at_ 0 s ((i-1:Nat):Int):=by
 rw[at0,at0,bF,bF,C_ hi,C_ (show i-1<s.length by omega),Ld,Ld]
 exact fun e=>Ω.1 (Cf.1 h) (i-1) i a_ hi a_ e.symm
theorem Yr{l:List Nat}(hl:l.length≤22)(h:∀k,Ro (k+5000) l=true):∃s:List Int,s.Perm (l.map fun n:Nat=>(n:Int))∧∀k,5000<k→bW.f k (l.map fun n:Nat=>(n:Int)) 0 (l.length:Int) (lm l.length)=some ((),s):=by
 have hL:(l.map fun n:Nat=>(n:Int)).length=l.length:=x_ _
 by_cases h12:l.length≤12
 ·obtain⟨s,s1,s2⟩:=TH (l:=l.map fun n:Nat=>(n:Int)) (lim:=lm l.length) (a:=0) (b:=l.length) (x:=true) (y:=true) a_ a_ a_ a_
  exact⟨s,s1,fun k hk=>s2 k a_⟩
 have hb:Nat.ble l.length 12=false:=by cases e:Nat.ble l.length 12 with|false=>rfl|true=>exact absurd (Z_ e) h12
 by_cases ho:TG (len l) l=true
 ·have hpv:=Xs (l:=l.map fun n:Nat=>(n:Int)) a_ a_
  have hlt:(fun i j=>decide ((l.map fun n:Nat=>(n:Int)).getD i 0<(l.map fun n:Nat=>(n:Int)).getD j 0))=fun i j=>!Nat.ble (nth l j) (nth l i):=by
   funext i j
   rw[Tv,Tv,Td,Td]
   by_cases e:l.getD j 0≤l.getD i 0
   ·rw[aah e,θ a_];rfl
   rw[show Nat.ble (l.getD j 0) (l.getD i 0)=false from by cases e2:Nat.ble (l.getD j 0) (l.getD i 0)with|false=>rfl|true=>exact absurd (Z_ e2) e,W_ a_];rfl
  rw[hlt,hL]at hpv
  have hp:=XA (fun i j=>!Nat.ble (nth l j) (nth l i)) (q:=l.length/4) (n:=l.length) a_ a_
  unfold TG UN at ho
  rw[SX,show Nat.div l.length 4=l.length/4 from rfl,XF]at ho
  generalize(pv1 (fun i j=>!Nat.ble (nth l j) (nth l i)) (l.length/4))=pr at hpv hp ho
  obtain⟨o1,o2⟩:=(S_ _ _).mp ho
  rw[Td]at o1 o2
  have h1:=Z_ o1
  have h2:l.length≤SL (l.getD pr.1 0) l+13:=Z_ o2
  have hc:=UC (l.getD pr.1 0) l
  rw[←Tv]at hc
  obtain⟨s,s1,s2⟩:=Xq (l:=l.map fun n:Nat=>(n:Int)) (lim:=lm l.length) (h:=RS pr.2) (p:=pr.1) a_ a_ ((Uy hl).2 a_) a_ (by rw[hL];exact hpv) (WG _) (by rw[hc];exact h1) (by rw[hc,hL];exact h2)
  rw[hL]at s2
  exact⟨s,s1,fun k hk=>s2 k a_⟩
 refine⟨SR (l.map fun n:Nat=>(n:Int)),VD _,fun k hk=>?_⟩
 have:=h (k-5000)
 unfold Ro at this
 rw[SX,hb]at this
 have:=((KZ _ _).mp this).resolve_left j_
 rw[←SX]at this
 have:=((KZ _ _).mp this).resolve_left ho
 unfold full at this
 rw[show k-5000+5000=k by omega,hL]at this
 cases e:bW.f k (l.map fun n:Nat=>(n:Int)) 0 (l.length:Int) (lm l.length)with
 |none=>rw[e]at this;cases this
 |some r=>
  rw[e]at this
  have h2:r.2=SR (l.map fun n:Nat=>(n:Int)):=aT this
  rw[←h2]
end Go.Proofs.YtmhkpafkadijgaaGreatDoor.Gw
