/- A part of the proof of Rows.PlayDecodesCardSaid; the conditions are that card's own. -/
import Derived.Test.YtmhkpafkadijgaaGreatDoorQ5
import Derived.Laws.Bits64b
set_option linter.all false
namespace Go.Proofs.YtmhkpafkadijgaaGreatDoor.Gw
open Go Go.RowKit
theorem ca{x:Int}(h0: -9223372036854775808≤x)(h1:x≤9223372036854775807):IntKind.i64.wrap x=x:=by
 have h:(2:Int)^64=18446744073709551616:=rfl
 simp only[IntKind.wrap,IntKind.signed,IntKind.bits,NM,Ny,show(2:Int)^64=18446744073709551616 from rfl,show(2:Int)^(64-1)=9223372036854775808 from rfl]
 split<;>omega
theorem lY{x:Int}(h0:0≤x)(h1:x≤255):IntKind.u8.wrap x=x:=by
 simp only[IntKind.wrap,IntKind.signed,IntKind.bits,Oy,NW,ZC]
 omega
theorem jx{x:Int}(h0:0≤x)(h1:x≤18446744073709551615):IntKind.u64.wrap x=x:=by
 simp only[IntKind.wrap,IntKind.signed,IntKind.bits,Oy,NW,ZC]
 omega
theorem oK{x:Int}(h0:0≤x)(h1:x≤65535):IntKind.u16.wrap x=x:=by
 simp only[IntKind.wrap,IntKind.signed,IntKind.bits,Oy,NW,ZC]
 omega
theorem u8_in(x:Int):0≤IntKind.u8.wrap x∧IntKind.u8.wrap x≤255:=by
 simp only[IntKind.wrap,IntKind.signed,IntKind.bits,Oy,NW,ZC]
 omega
theorem bh{α:Type}{p:Prop}[Decidable p](h:p)(x y:α):(bif decide p then x else y)=x:=aac
theorem aQ{α:Type}{p:Prop}[Decidable p](h:¬p)(x y:α):(bif decide p then x else y)=y:=aac
theorem kg{α:Type}{p:Prop}[Decidable p](h:¬p)(x y:α):(bif !decide p then x else y)=x:=aac
theorem cH{α:Type}{p:Prop}[Decidable p](h:p)(x y:α):(bif !decide p then x else y)=y:=aac
theorem aF{α:Type}{p:Prop}[Decidable p](h:p)(x:Option α):an (decide p) x=x:=by simp[an,h]
theorem nt{α:Type}{z:α}{l:List α}{n:Nat}(h:n<l.length):at_ z l (n:Int)=l[n]:=by simp[at_,List.getD,h]
theorem bT{n:Nat}(h:n<4611686018427387904):IntKind.i64.wrap ((n:Int)+1)=((n+1:Nat):Int):=by rw[ca a_ a_];omega
theorem iB{n:Nat}(h:n<4611686018427387904):IntKind.i64.wrap (n:Int)=(n:Int):=ca a_ a_
def dw:Nat→Nat→Nat
 |0,_=>0
 |f+1,x=>if x%2=1 then 0 else 1+dw f (x/2)
theorem DJ{n:Nat}(hn:n<256)(h0:n≠0):kv.f (n:Int)=some ((dw 8 n:Nat):Int)∧dw 8 n<8∧(n&&&(n-1))+2^dw 8 n=n∧(n&&&(n-1))^^^2^dw 8 n=n∧(n&&&(n-1))%2^dw 8 n=0:=by
 have h:fB (fun n=>Nat.beq n 0||(decide (kv.f (n:Int)=some ((dw 8 n:Nat):Int))&&(Nat.blt (dw 8 n) 8&&(Nat.beq ((n&&&(n-1))+2^dw 8 n) n&&(Nat.beq ((n&&&(n-1))^^^2^dw 8 n) n&&Nat.beq ((n&&&(n-1))%2^dw 8 n) 0)))))=true:=R_
 have h1:=fM h hn
 simp only[KZ,S_,Ny,Nat.beq_eq,PR]at h1
 rcases h1 with h1|h1
 ·exact absurd h1 h0
 exact h1
theorem Qk{n l:Nat}(hn:n<256)(h0:n≠0)(hl:l<9)(h:n%2^l=0):l≤dw 8 n:=by
 have hc:fB (fun n=>Nat.beq n 0||(List.range 9).all fun l=>!(Nat.beq (n%2^l) 0)||Nat.ble l (dw 8 n))=true:=R_
 have h1:=fM hc hn
 rw[KZ]at h1
 rcases h1 with h1|h1
 ·exact absurd (eF h1) h0
 have h2:=Y_.1 h1 l (φ.2 hl)
 simp only[KZ,Ox,Nat.ble_eq]at h2
 rcases h2 with h2|h2
 ·rw[h]at h2;cases h2
 exact h2
theorem yr{n:Nat}(hn:n<256)(h0:n≠0):bits .and .u64 (n:Int) (IntKind.u64.wrap ((n:Int)-1))=((n&&&(n-1):Nat):Int):=by
 have e:IntKind.u64.wrap ((n:Int)-1)=((n-1:Nat):Int):=by rw[jx a_ a_];omega
 rw[e,bits_and_u64_nat _ _ a_ a_]
theorem uJ(a b:Nat)(ha:a<65536)(hb:b<65536):bits .xor .u16 (a:Int) (b:Int)=((a^^^b:Nat):Int):=by
 have hx:a^^^b<2^16:=LH a_ a_
 have h1:(BitVec.ofInt 16 (a:Int)).toNat=a:=by
  rw[FH,ZK];exact PQ a_
 have h2:(BitVec.ofInt 16 (b:Int)).toNat=b:=by
  rw[FH,ZK];exact PQ a_
 show IntKind.u16.wrap ((BitVec.ofInt 16 (a:Int)^^^BitVec.ofInt 16 (b:Int)).toNat:Int)=_
 rw[BitVec.toNat_xor,h1,h2,oK a_ a_]
def dD:Nat→Nat→Nat→Nat
 |0,_,_=>0
 |f+1,a,n=>(if n%2=1 then a else 0)^^^dD f (2*a) (n/2)
theorem sF:∀(f a:Nat),dD f a 0=0
 |0,_=>rfl
 |f+1,a=>by rw[dD];simp[sF f]
theorem yZ:∀(f a b c:Nat),dD f a (b^^^c)=dD f a b^^^dD f a c
 |0,_,_,_=>by simp[dD]
 |f+1,a,b,c=>by
  have h1:(b^^^c)/2=b/2^^^c/2:=by
   have:= @Nat.xor_div_two_pow b c 1;simpa using this
  have h2:(b^^^c)%2=(b%2)^^^(c%2):=by
   have:= @Nat.xor_mod_two_pow b c 1;simpa using this
  rw[dD,dD,dD,h1,yZ f,h2]
  have hb:=Gp b
  have hc:=Gp c
  rcases hb with hb|hb<;>rcases hc with hc|hc<;>simp[hb,hc]
  ·exact qt _ _ _
  ·rw[FQ]
  rw[qt,←FQ a,←FQ a,aaJ,LZ]
theorem Gq(f a t:Nat)(h:t<f):dD f a (2^t)=a*2^t:=by
 induction f generalizing a t with
 |zero=>omega
 |succ f ih=>
  rw[dD]
  cases t with
  |zero=>simp[sF]
  |succ t=>
   have h1:2^(t+1)%2=0:=Pz
   have h2:2^(t+1)/2=2^t:=Pz
   rw[I_ a_,h2,ih _ _ a_,LZ,FI,FX 2 a,aaz,FX 2]
theorem yW:∀(f a n m:Nat),a*2^f≤2^m→dD f a n<2^m
 |0,_,_,m,_=>by rw[dD];exact KY m
 |f+1,a,n,m,h=>by
  rw[dD]
  have h1:2*a*2^f=a*2^(f+1):=Zz
  refine LH ?_ (yW f (2*a) _ m (by rw[h1];exact h))
  split
  ·have h2:a*2≤a*2^(f+1):=Nat.mul_le_mul_left a aay
   have h3:=KY m
   by_cases ha:a=0
   ·subst ha;exact h3
   omega
  exact KY m
theorem yY{a:Nat}(n:Nat)(ha:a<256):dD 8 a n<65536:=yW 8 a n 16 a_
theorem DY{a:Nat}(ha:a<256):∀(m k x n:Nat),n≤m→n<256→m<k→x<65536→ix.l0 k (a:Int) (x:Int) (n:Int)=some ((x^^^dD 8 a n:Nat):Int)
 |m,0,_,_,_,_,h,_=>a_
 |0,k+1,x,n,hnm,hn,hk,hx=>by
  obtain rfl:n=0:=a_
  rw[ix.l0,cH EJ,sF,Zw]
 |m+1,k+1,x,n,hnm,hn,hk,hx=>by
  by_cases h0:n=0
  ·subst h0;rw[ix.l0,cH EJ,sF,Zw]
  obtain⟨e1,l1,e2,e3,_⟩:=DJ hn h0
  have hp:a*2^dw 8 n<65536:=by
   have h1:2^dw 8 n≤2^7:=FZ f_ a_
   have:a*2^dw 8 n≤255*2^7:=Φ a_ h1
   omega
  have hs:IntKind.u16.wrap (IntKind.u16.wrap (a:Int)*2^min ((dw 8 n:Nat):Int).toNat 16)=((a*2^dw 8 n:Nat):Int):=by
   rw[oK (x:=(a:Int)) a_ a_]
   have:min ((dw 8 n:Nat):Int).toNat 16=dw 8 n:=a_
   have hc:((a*2^dw 8 n:Nat):Int)=(a:Int)*2^dw 8 n:=j_
   rw[this,←hc,oK a_ a_]
  rw[ix.l0,kg a_,e1,aJ,aF a_,hs,uJ _ _ hx hp,yr hn h0]
  have hlt:n&&&(n-1)<n:=abj
  rw[DY ha m k _ _ a_ a_ a_ (LH (n:=16) hx hp),FQ,←Gq 8 a _ l1,←yZ,Nat.xor_comm (2^_),e3]
theorem Bl{w:Nat}(hw:w<256):jP.f (w:Int)=some (sat hZ (w:Int))∧∃L:Nat,sat hZ (w:Int)=L∧w<2^L∧(0<L→2^(L-1)≤w)∧L≤8:=by
 have hc:fB (fun w=>Nat.blt w (2^(sat hZ (w:Int)).toNat)&&(Nat.beq (sat hZ (w:Int)).toNat 0||Nat.ble (2^((sat hZ (w:Int)).toNat-1)) w)&&Nat.ble (sat hZ (w:Int)).toNat 8&&decide (jP.f (w:Int)=some (sat hZ (w:Int)))&&decide (0≤sat hZ (w:Int)))=true:=R_
 have h1:=fM hc hw
 simp only[KZ,S_,Ny,Nat.beq_eq,PR,Nat.ble_eq]at h1
 obtain⟨⟨⟨⟨h1,h2⟩,h3⟩,h4⟩,h5⟩:=h1
 exact⟨h4,_,(KU h5).symm,h1,fun h=>h2.resolve_left a_,h3⟩
theorem Bj{w:Nat}(hw:w<65536):∃L:Nat,jP.f (w:Int)=some (L:Int)∧w<2^L∧(0<L→2^(L-1)≤w)∧L≤16:=by
 by_cases h:w<256
 ·obtain⟨e,L,e1,h1,h2,h3⟩:=Bl h
  exact⟨L,by rw[e,e1],h1,h2,a_⟩
 obtain⟨_,L,e1,h1,h2,h3⟩:=Bl (w:=w/256) a_
 have hd:IntKind.u8.wrap (Int.fdiv (w:Int) (2^min (8:Int).toNat 16))=((w/256:Nat):Int):=by
  have:Int.fdiv (w:Int) (2^min (8:Int).toNat 16)=((w/256:Nat):Int):=by
   show Int.fdiv (w:Int) 256=_
   rw[ZH _ f_];omega
  rw[this,lY a_ a_]
 have hsz:((hZ.size:Nat):Int)=256:=R_
 have hL0:0<L:=by
  rcases Nat.eq_zero_or_pos L with h0|h0
  ·subst h0;simp at h1;omega
  exact h0
 refine⟨8+L,?_,?_,fun _=>?_,a_⟩
 ·unfold jP.f
  rw[bh a_,hd,hsz,aF a_,e1,ca (x:=(L:Int)) a_ a_,ca a_ a_];rfl
 ·rw[ZO];have:=Nat.div_lt_iff_lt_mul (k:=256) (x:=w) (y:=2^L) f_;omega
 have h4:=h2 hL0
 have e:8+L-1=8+(L-1):=a_
 rw[e,ZO];have:=(Nat.le_div_iff_mul_le (k:=256) (x:=2^(L-1)) (y:=w) f_).1 h4;omega
def eW(w:Nat):Nat:=cN 16 1 w
theorem uu{w:Nat}(hw:w<256):eW w=w:=by
 have:fB (fun w=>Nat.beq (eW w) w)=true:=R_
 exact eF (fM this hw)
theorem CQ{j:Nat}(h:j<8):eW (285*2^j)=0:=by
 have:(List.range 8).all (fun j=>Nat.beq (eW (285*2^j)) 0)=true:=R_
 exact eF (Y_.1 this j (φ.2 h))
theorem DH{x y t:Nat}(hx0:2^t≤x)(hx:x<2^(t+1))(hy0:2^t≤y)(hy:y<2^(t+1)):x^^^y<2^t:=by
 obtain⟨a,rfl⟩:∃a,x=2^t+a:=⟨x-2^t,a_⟩
 obtain⟨b,rfl⟩:∃b,y=2^t+b:=⟨y-2^t,a_⟩
 rw[FI]at hx hy
 have ha:a<2^t:=a_
 have hb:b<2^t:=a_
 have e1:2^t+a=2^t^^^a:=by
  have:=Nat.two_pow_add_eq_or_of_lt ha 1
  apply Nat.eq_of_testBit_eq;intro i
  rw[aa0]
  by_cases hi:i<t
  ·rw[aa8 hi,NJ a_];simp
  by_cases hi2:i=t
  ·subst hi2;rw[aa9,Nat.testBit_two_pow_self,LD ha];simp
  rw[LD (x:=2^t+a) (i:=i) (ED (by omega:2^t+a<2^(t+1)) (FZ f_ a_)),NJ a_,LD (x:=a) (i:=i) (ED ha (FZ f_ a_))];rfl
 have e2:2^t+b=2^t^^^b:=by
  apply Nat.eq_of_testBit_eq;intro i
  rw[aa0]
  by_cases hi:i<t
  ·rw[aa8 hi,NJ a_];simp
  by_cases hi2:i=t
  ·subst hi2;rw[aa9,Nat.testBit_two_pow_self,LD hb];simp
  rw[LD (x:=2^t+b) (i:=i) (ED (by omega:2^t+b<2^(t+1)) (FZ f_ a_)),NJ a_,LD (x:=b) (i:=i) (ED hb (FZ f_ a_))];rfl
 rw[e1,e2,FQ,qt a,←FQ,aaJ,LZ]
 exact LH ha hb
theorem CR:∀(m k w L:Nat),w≤m→w<65536→m<k→jP.f (w:Int)=some (L:Int)→w<2^L→(0<L→2^(L-1)≤w)→L≤16→iw.l0 k (w:Int) (L:Int)=some ((eW w:Nat):Int)
 |m,0,_,_,_,_,h,_,_,_,_=>a_
 |m,k+1,w,L,hm,hw,hk,hL,h1,h2,h3=>by
  by_cases h8:8<L
  ·have ej:IntKind.i64.wrap (IntKind.i64.wrap ((L:Int)-1)-8)=((L-9:Nat):Int):=by
    rw[ca (x:=(L:Int)-1) a_ a_,ca a_ a_];omega
   have hp:285*2^(L-9)<65536:=by
    have:2^(L-9)≤2^7:=FZ f_ a_
    omega
   have hs:IntKind.u16.wrap (285*2^min ((L-9:Nat):Int).toNat 16)=((285*2^(L-9):Nat):Int):=by
    have:min ((L-9:Nat):Int).toNat 16=L-9:=a_
    have hc:((285*2^(L-9):Nat):Int)=(285:Int)*2^(L-9):=j_
    rw[this,←hc,oK a_ a_]
   have e9:2^(L-1)=256*2^(L-9):=by rw[show L-1=8+(L-9) by omega,ZO]
   have e10:2^L=2*2^(L-1):=by conv=>lhs;rw[show L=(L-1)+1 by omega,FI,FX]
   have hpos:=KY (L-9)
   have hx:w^^^285*2^(L-9)<2^(L-1):=DH (h2 a_) Pz a_ Pz
   have hlt:w^^^285*2^(L-9)<w:=ED hx (h2 a_)
   obtain⟨L',f1,f2,f3,f4⟩:=Bj (w:=w^^^285*2^(L-9)) a_
   rw[iw.l0,bh a_,ej,aF a_,hs,uJ _ _ hw hp,f1,aJ]
   match m,hm,hk with
   |0,hm,hk=>omega
   |m+1,hm,hk=>
    rw[CR m k _ L' a_ a_ a_ f1 f2 f3 f4]
    unfold eW
    rw[ry]
    have:=CQ (j:=L-9) a_
    unfold eW at this
    rw[this,Zw]
  have hb:w<256:=ED h1 (by have:2^L≤2^8:=FZ f_ a_;omega)
  rw[iw.l0,aQ a_,lY a_ a_,uu hb]
theorem O5{k w:Nat}(hw:w<65536)(hk:65536<k):iw.f k (w:Int)=some ((eW w:Nat):Int):=by
 obtain⟨L,f1,f2,f3,f4⟩:=Bj hw
 unfold iw.f
 rw[f1,aJ,CR w k w L (aI _) hw a_ f1 f2 f3 f4]
theorem I7(f a b:Nat):cN (f+1) a (2*b)=cN f (x2 a) b:=by
 rw[cN,I_ a_,LZ];congr 1;omega
theorem Ax:∀(f a b:Nat),b<2^f→cN (f+1) a b=cN f a b
 |0,a,b,h=>by
  obtain rfl:b=0:=sW
  rw[pK,pK]
 |f+1,a,b,h=>by
  rw[cN,Ax f _ _ (by rw[FI]at h;omega)];conv=>rhs;rw[cN]
theorem O2{b:Nat}(hb:b<2^15):eW (2*b)=x2 (eW b):=by
 unfold eW
 rw[I7,xT 16 _ f_,Ax 15 _ _ hb]
theorem xo:∀(f a b:Nat),a*2^f<2^16→eW (dD f a b)=cN f (eW a) b
 |0,_,_,_=>by unfold eW;rw[dD,cN,pK]
 |f+1,a,b,h=>by
  have h1:2*a*2^f=a*2^(f+1):=Zz
  have ha:a<2^15:=by
   have h2:a*2≤a*2^(f+1):=Nat.mul_le_mul_left a aay
   omega
  rw[dD,cN]
  have e:eW ((if b%2=1 then a else 0)^^^dD f (2*a) (b/2))=eW (if b%2=1 then a else 0)^^^eW (dD f (2*a) (b/2)):=ry _ _ _ _
  rw[e,xo f (2*a) _ (by rw[h1];exact h)]
  have e2:eW (2*a)=x2 (eW a):=O2 ha
  rw[e2]
  congr 1
  split
  ·rfl
  exact pK _ _
theorem rY{k a b:Nat}(ha:a<256)(hb:b<256)(hk:65536<k):ju.f k (a:Int) (b:Int)=some ((br a b:Nat):Int):=by
 unfold ju.f ix.f
 rw[jx a_ a_]
 have:=DY ha 255 k 0 b a_ hb a_ a_
 rw[show((0:Nat):Int)=0 from rfl]at this
 rw[this,aJ,LZ,O5 (yY b ha) hk,aJ,xo 8 a b a_,uu ha];rfl
end Go.Proofs.YtmhkpafkadijgaaGreatDoor.Gw
