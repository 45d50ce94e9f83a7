/- A part of the proof of Rows.PlayDecodesCardSaid; the conditions are that card's own. -/
import Derived.Test.YtmhkpafkadijgaaGreatDoorQ9
set_option linter.all false
namespace Go.Proofs.YtmhkpafkadijgaaGreatDoor.Gw
open Go.IntKind renaming wrap→I,i64→W
open Go Go.RowKit
theorem zT{n:Nat}(h:n<510):at_ 0 eV (n:Int)=(bD 2 n:Nat):=by
 rw[nt (by rw[rb];exact h)];simp[eV]
theorem L5{n:Nat}(h:n<256):at_ 0 gM (n:Int)=(fe n:Nat):=by
 rw[nt (by rw[Bq];exact h)];simp[gM]
theorem pR{a:Nat}(ha:a<256)(h0:a≠0):jd.f (a:Int)=some (((fe a:Nat):Int),true):=by
 unfold jd.f
 rw[aQ a_,aF a_,L5 ha,iB (by have:=(nW ha h0).2;omega)]
theorem vY:jd.f 0=some (0,false):=f_
theorem DG{a b:Nat}(ha:a<256)(hb:b<256):lX.f (a:Int) (b:Int)=some ((br a b:Nat):Int):=by
 unfold lX.f
 by_cases h0:a=0
 ·subst h0
  by_cases h1:b=0
  ·subst h1;decide
  rw[show((0:Nat):Int)=0 from rfl,vY,pR hb h1,Av hb];rfl
 by_cases h1:b=0
 ·subst h1
  rw[show((0:Nat):Int)=0 from rfl,vY,pR ha h0,pJ];rfl
 obtain⟨e1,l1⟩:=nW ha h0
 obtain⟨e2,l2⟩:=nW hb h1
 rw[pR ha h0,pR hb h1]
 simp only[aJ,ν,U_]
 have hw:I W (((fe a:Nat):Int)+((fe b:Nat):Int))=((fe a+fe b:Nat):Int):=by rw[ca a_ a_];omega
 rw[hw,aF a_,zT a_,lD f_,e1,e2]
theorem tF{n:Int}(h0: -9223372036854775808≤n)(h1:n≤9223372036854775807):kE.f n=some (n%255):=by
 unfold kE.f
 have hlo:=P8 n (by decide:(255:Int)≠0)
 have hhi:=NV n (by decide:(0:Int)<255)
 have h:Int.tmod n 255=n%255∨(Int.tmod n 255=n%255-255∧Int.tmod n 255<0):=by
  by_cases hn:0≤n
  ·left;rw[EO hn]
  have e:Int.tmod n 255= -((-n)%255):=by
   rw[←EO (by omega:0≤ -n),Int.neg_tmod];omega
  omega
 rcases h with h|⟨h,hn⟩
 ·rw[aQ a_,h]
 rw[bh hn,ca a_ a_];congr 1;omega
theorem zS{n:Int}(h0: -9223372036854775808≤n)(h1:n≤9223372036854775807):lW.f n=some ((bD 2 (n%255).toNat:Nat):Int):=by
 unfold lW.f
 have hlo:=P8 n (by decide:(255:Int)≠0)
 have hhi:=NV n (by decide:(0:Int)<255)
 rw[tF h0 h1,aJ,aF a_]
 obtain⟨m,hm⟩:∃m:Nat,n%255=m:=⟨(n%255).toNat,a_⟩
 rw[hm,zT a_];simp
theorem AB{a:Nat}(ha:a<256)(h0:a≠0){m n:Nat}(h:m%255=n%255):bD a m=bD a n:=by
 rw[←nP ha h0 m,←nP ha h0 n,h]
theorem Qh{a:Nat}(ha:a<256):oH.f (a:Int)=some (if a=0 then(0,false)else(((jM a:Nat):Int),true)):=by
 unfold oH.f
 by_cases h0:a=0
 ·subst h0;decide
 obtain⟨e1,l1⟩:=nW ha h0
 rw[pR ha h0,I_ h0]
 simp only[aJ,ν,U_]
 rw[ca a_ a_,zS a_ a_,aJ]
 have:bD 2 (-((fe a:Nat):Int)%255).toNat=jM a:=by
  unfold jM
  conv=>rhs;rw[←e1,←kR f_]
  exact AB f_ f_ a_
 rw[this]
theorem Qj{a:Nat}(ha:a<256){n:Int}(h0: -9223372036854775808≤n)(h1:n≤9223372036854775807):jv.f (a:Int) n=some (jN a n):=by
 unfold jv.f jN
 by_cases ha0:a=0
 ·subst ha0
  rw[show((0:Nat):Int)=0 from rfl,vY]
  simp only[aJ,ZJ,EK]
  by_cases hn:n=0
  ·subst hn;decide
  simp[hn]
 obtain⟨e1,l1⟩:=nW ha ha0
 have hlo:=P8 n (by decide:(255:Int)≠0)
 have hhi:=NV n (by decide:(0:Int)<255)
 rw[pR ha ha0,I_ a_]
 simp only[aJ,ν,U_]
 by_cases hn:n=0
 ·subst hn;rw[bh rfl];rfl
 rw[aQ hn]
 unfold jv.j0
 rw[tF h0 h1,aJ]
 obtain⟨m,hm⟩:∃m:Nat,n%255=m:=⟨(n%255).toNat,a_⟩
 rw[hm]
 have hmul:((fe a:Nat):Int)*(m:Int)=((fe a*m:Nat):Int):=by rw[aag]
 have hle:fe a*m≤255*255:=Φ a_ a_
 simp only[hmul]
 rw[ca a_ a_,zS a_ a_,aJ]
 have:bD 2 (((fe a*m:Nat):Int)%255).toNat=bD a m:=by
  conv=>rhs;rw[←e1,←kR f_]
  exact AB f_ f_ a_
 rw[this];simp
theorem Cq:∀(r k a o l n i c:Nat),a<256→o<256→65536<k→i<100→i=l+c+r→
 dC.l1 (k+1+r) (o:Int) (l:Int) (n:Int) (i:Int) (a:Int) (c:Int)=dC.l0 k ((bD a (2^r):Nat):Int) ((br o (bD a (2^r)):Nat):Int) (i:Int) (bits .and .u64 (n:Int) (IntKind.u64.wrap ((n:Int)-1)))
 |0,k,a,o,l,n,i,c,ha,ho,hk,hi,h=>by
  have e1:bD a (2^0)=a:=by show br 1 a=a;exact kQ ha
  rw[Gy,dC.l1,ca (x:=(i:Int)-(l:Int)) a_ a_,aQ a_,rY ho ha hk,aJ,e1]
 |r+1,k,a,o,l,n,i,c,ha,ho,hk,hi,h=>by
  have hc:I W ((c:Int)+1)=((c+1:Nat):Int):=bT a_
  rw[show k+1+(r+1)=(k+1+r)+1 by omega,dC.l1,ca (x:=(i:Int)-(l:Int)) a_ a_,bh a_,rY ha ha a_,aJ,hc,Cq r k (br a a) o l n i (c+1) (mz _ ha) ho hk hi a_]
  have e2:bD (br a a) (2^r)=bD a (2^(r+1)):=by
   have:br a a=bD a 2:=by show _=br (br 1 a) a;rw[kQ ha]
   rw[this,←kR ha,FI,FX]
  rw[e2]
theorem Cp{a0:Nat}(h0:a0<256):∀(m k o l n:Nat),n≤m→n<256→70000+20*m<k→o<256→l<9→n%2^l=0→
 dC.l0 k ((bD a0 (2^l):Nat):Int) (o:Int) (l:Int) (n:Int)=some ((br o (bD a0 n):Nat):Int)
 |m,0,_,_,_,_,_,h,_,_,_=>a_
 |0,k+1,o,l,n,hm,hn,hk,ho,hl,hd=>by
  obtain rfl:n=0:=a_
  rw[dC.l0,cH EJ];show _=some ((br o 1:Nat):Int);rw[mA]
 |m+1,k+1,o,l,n,hm,hn,hk,ho,hl,hd=>by
  by_cases hz:n=0
  ·subst hz;rw[dC.l0,cH EJ];show _=some ((br o 1:Nat):Int);rw[mA]
  obtain⟨e1,l1,e2,e3,e4⟩:=DJ hn hz
  have hge:=Qk hn hz hl hd
  obtain⟨k',rfl⟩:∃k',k=k'+1+(dw 8 n-l):=⟨k-1-(dw 8 n-l),a_⟩
  have hlt:n&&&(n-1)<n:=abj
  have e5:bD (bD a0 (2^l)) (2^(dw 8 n-l))=bD a0 (2^dw 8 n):=by
   rw[←kR h0,←ZO];congr 2;omega
  have hp:=Cq (dw 8 n-l) k' (bD a0 (2^l)) o l n (dw 8 n) 0 (iP h0 _) ho a_ a_ a_
  rw[show((0:Nat):Int)=0 from rfl]at hp
  rw[dC.l0,kg a_,e1,aJ,hp,e5,yr hn hz,Cp h0 m k' _ _ _ a_ a_ a_ (mz _ ho) a_ e4]
  have e6:br (br o (bD a0 (2^dw 8 n))) (bD a0 (n&&&(n-1)))=br o (bD a0 n):=by
   rw[tj _ ho (iP h0 _),←lD h0,aaL,e2]
  rw[e6]
theorem Dn{k a n:Nat}(ha:a<256)(hn:n<256)(hk:80000<k):dC.f k (a:Int) (n:Int)=some ((bD a n:Nat):Int):=by
 unfold dC.f
 have h:=Cp ha 255 k 1 0 n a_ hn a_ f_ f_ a_
 have e:bD a (2^0)=a:=by show br 1 a=a;exact kQ ha
 rw[e,kQ (iP ha n)]at h
 exact h
theorem PD{k a:Nat}(ha:a<256)(hk:80000<k):nL.f k (a:Int)=some (if a=0 then(0,false)else(((jM a:Nat):Int),true)):=by
 unfold nL.f ql.f
 by_cases h0:a=0
 ·subst h0;rfl
 have:=Dn (k:=k) ha (n:=254) f_ hk
 rw[aQ a_,show(254:Int)=((254:Nat):Int) from rfl,this,I_ h0];rfl
theorem PK{k a:Nat}(ha:a<256)(hk:80000<k){n:Int}(h0: -9223372036854775808≤n)(h1:n≤9223372036854775807):nM.f k (a:Int) n=some (jN a n):=by
 have hlo:=P8 n (by decide:(255:Int)≠0)
 have hhi:=NV n (by decide:(0:Int)<255)
 have j0:fy.j0 k (a:Int) n=some ((bD a (n%255).toNat:Nat):Int):=by
  obtain⟨m,hm⟩:∃m:Nat,n%255=m:=⟨(n%255).toNat,a_⟩
  have hj:fy.j1 k (a:Int) (m:Int)=some ((bD a m:Nat):Int):=by
   unfold fy.j1
   rw[jx a_ a_,Dn ha a_ hk];rfl
  have hl:=tF h0 h1
  unfold kE.f at hl
  unfold fy.j0
  by_cases hn:Int.tmod n 255<0
  ·rw[bh hn]at hl⊢
   rw[FP hl,hm,hj];simp
  rw[aQ hn]at hl⊢
  rw[FP hl,hm,hj];simp
 unfold nM.f fy.f jN
 by_cases ha0:a=0
 ·subst ha0
  rw[bh EJ]
  by_cases hn:n=0
  ·subst hn;rw[cH rfl,j0];rfl
  rw[kg hn];simp[hn]
 rw[aQ a_,j0,I_ a_];simp
theorem qG{l:List Int}(h:cR l=true){j:Nat}(hj:j<l.length):∃n:Nat,l[j]=n∧n<256:=oW (Y_.1 h _ (T_ hj))
theorem B9:∀(d k j:Nat)(l m u:List Int),cR l=true→cR m=true→m.length=l.length→u.length=l.length→l.length<4611686018427387904→j+d=l.length→d<k→
 iM.l0 k l m u (j:Int)=some (u.take j++(List.zipWith gm l m).drop j)
 |d,0,_,_,_,_,_,_,_,_,_,_,h=>a_
 |0,k+1,j,l,m,u,hl,hm,e1,e2,h63,hj,hk=>by
  obtain rfl:j=l.length:=a_
  rw[iM.l0,aQ a_,D_ a_,Θ l_];simp
 |d+1,k+1,j,l,m,u,hl,hm,e1,e2,h63,hj,hk=>by
  obtain⟨a,ea,ha⟩:=qG hl (j:=j) a_
  obtain⟨b,eb,hb⟩:=qG hm (j:=j) a_
  rw[iM.l0,bh a_,aF a_,aF a_,nt a_,nt a_,ea,eb,DG ha hb,aJ,aF a_,bT a_]
  rw[B9 d k (j+1) l m _ hl hm e1 (by simp[e2]) h63 a_ a_]
  congr 1
  have hz:j<(List.zipWith gm l m).length:=l_
  rw[δ hz,LM,ea,eb]
  have hu:(u.set ((j:Nat):Int).toNat ((br a b:Nat):Int)).take (j+1)=u.take j++[((br a b:Nat):Int)]:=by
   simp only[n_]
   rw[y_ l_,List.take_set_of_le (aI _)];simp
  rw[hu];simp[gm]
theorem B8:∀(d k j:Nat)(l m u:List Int),cR l=true→cR m=true→m.length=l.length→u.length=l.length→l.length<4611686018427387904→j+d=l.length→d+65537<k→
 iL.l0 k l m u (j:Int)=some (u.take j++(List.zipWith gm l m).drop j)
 |d,0,_,_,_,_,_,_,_,_,_,_,h=>a_
 |0,k+1,j,l,m,u,hl,hm,e1,e2,h63,hj,hk=>by
  obtain rfl:j=l.length:=a_
  rw[iL.l0,aQ a_,D_ a_,Θ l_];simp
 |d+1,k+1,j,l,m,u,hl,hm,e1,e2,h63,hj,hk=>by
  obtain⟨a,ea,ha⟩:=qG hl (j:=j) a_
  obtain⟨b,eb,hb⟩:=qG hm (j:=j) a_
  have hmul:kP.f k (a:Int) (b:Int)=some ((br a b:Nat):Int):=by
   unfold kP.f;rw[rY ha hb a_];rfl
  rw[iL.l0,bh a_,aF a_,aF a_,nt a_,nt a_,ea,eb,hmul,aJ,aF a_,bT a_]
  rw[B8 d k (j+1) l m _ hl hm e1 (by simp[e2]) h63 a_ a_]
  congr 1
  have hz:j<(List.zipWith gm l m).length:=l_
  rw[δ hz,LM,ea,eb]
  have hu:(u.set ((j:Nat):Int).toNat ((br a b:Nat):Int)).take (j+1)=u.take j++[((br a b:Nat):Int)]:=by
   simp only[n_]
   rw[y_ l_,List.take_set_of_le (aI _)];simp
  rw[hu];simp[gm]
theorem x0(l m:List Int):List.zipWith gm (l.take (min l.length m.length)) (m.take (min l.length m.length))=List.zipWith gm l m:=by
 rw[←List.take_zipWith,D_ j_]
theorem mh{l:List Int}(n:Nat)(h:cR l=true):cR (l.take n)=true:=
 Y_.2 fun x hx=>Y_.1 h x (LK hx)
theorem IQ{k:Nat}{l m:List Int}(hl:cR l=true)(hm:cR m=true)(hb:l.length≤140737488355328)(hk:l.length<k):pG.f k l m=some (List.zipWith gm l m):=by
 unfold pG.f
 have e:min2 (l.length:Int) (m.length:Int)=((min l.length m.length:Nat):Int):=NL
 rw[e]
 by_cases h0:min l.length m.length=0
 ·rw[bh a_]
  rcases Rk.1 h0 with h|h
  ·rw[IJ.1 h];rfl
  rw[IJ.1 h];simp
 rw[aQ a_,aF a_,aF a_]
 simp only[n_,Γ]
 unfold iM.f
 have hle:(l.take (min l.length m.length)).length=min l.length m.length:=j_
 have hle2:(m.take (min l.length m.length)).length=min l.length m.length:=j_
 rw[aF a_]
 have:=B9 (min l.length m.length) k 0 (l.take (min l.length m.length)) (m.take (min l.length m.length)) (List.replicate ((l.take (min l.length m.length)).length:Int).toNat (0:Int)) (mh _ hl) (mh _ hm) a_ j_ a_ a_ a_
 rw[show((0:Nat):Int)=0 from rfl]at this
 rw[this,x0];simp
theorem IP{k:Nat}{l m:List Int}(hl:cR l=true)(hm:cR m=true)(hb:l.length≤140737488355328)(hk:l.length+65540<k):pE.f k l m=some (List.zipWith gm l m):=by
 unfold pE.f
 have e:min2 (l.length:Int) (m.length:Int)=((min l.length m.length:Nat):Int):=NL
 rw[e]
 by_cases h0:min l.length m.length=0
 ·rw[bh a_]
  rcases Rk.1 h0 with h|h
  ·rw[IJ.1 h];rfl
  rw[IJ.1 h];simp
 rw[aQ a_,aF a_,aF a_]
 simp only[n_,Γ]
 unfold iL.f
 have hle:(l.take (min l.length m.length)).length=min l.length m.length:=j_
 have hle2:(m.take (min l.length m.length)).length=min l.length m.length:=j_
 rw[aF a_]
 have:=B8 (min l.length m.length) k 0 (l.take (min l.length m.length)) (m.take (min l.length m.length)) (List.replicate ((l.take (min l.length m.length)).length:Int).toNat (0:Int)) (mh _ hl) (mh _ hm) a_ j_ a_ a_ a_
 rw[show((0:Nat):Int)=0 from rfl]at this
 rw[this,x0];simp
def sw(k:IntKind)(P:Program)(T:TypeId)(n:Nat):Prop:=((P.info? T).bind (·.zero)).map (fun v=>v.cells.toList)=some (List.replicate n (.int k 0))
section
variable{k:IntKind}{P:Program}{ρ:Option Nat}{N:Nat}{t:Fr}{w w0:World}{X:Nat→Prop}{L:List Rs}{R:Value→World→Prop}{d:Option Nat}{ty T T1 E:TypeId}{ps:String}{af:Array Edge}{g:Option (Nat×Bool)}{x y:Operand}{b n m:Nat}{l l':List Int}
theorem wW{cs:Array Value}(hs:cs.toList=l.map (Value.int k))(hl:l.length=n)(hn:n≤maxLen)(hh:w.heap[b]? =some (.cells cs E)):(Rs.own (.int k) E (.slice (some ⟨b,0,none⟩) n n) l).inv w:=by
 have hz:cs.size=n:=by rw[←LQ,hs,x_,hl]
 exact⟨by rw[(bm.int k).fC],.inr ⟨b,n,cs,by rw[hl],jc _,hh,by rw[hl];exact aI _,hn,by rw[hz];exact(EI n).symm,by rw[hs,qC];exact D_ (by simp[bm.int])⟩⟩
theorem kJ(hz:sw k P T n)(H:St X w0 w L)(h:∀b w',St X w0 w' (L++[.own (.int k) T (.slice (some ⟨b,0,none⟩) n n) (List.replicate n 0)])→R (.pointer (some ⟨b,0,none⟩)) w')(hn:Nat.ble n maxLen=true:=by rfl):Yd P ρ N ⟨d,.alloc T,ty,ps,af,g⟩ t w R:=by
 unfold sw at hz
 cases hi:(P.info? T).bind (·.zero)with
 |none=>rw[hi]at hz;cases hz
 |some v=>
  rw[hi]at hz
  have hc:v.cells.toList=List.replicate n (.int k 0):=by simpa using hz
  refine uK hi rfl (h _ _ (H.new (.alloc _ _ _) (wW (by rw[hc];simp) (by simp) (Nat.le_of_ble_eq_true hn) ?_) ?_))
  ·show(w.heap.push _)[w.heap.size]? =_
   simp
  intro c hb
  have:(Value.slice (some ⟨w.heap.size,0,none⟩) n n).ownBlock=some c:=hb
  cases this;exact aI _
theorem qu(H:St X w0 w L)(hx:ev t x= .agg (l.map (Value.int k)).toArray)(hl:l.length=n)(h:∀b w',St X w0 w' (L++[.own (.int k) T (.slice (some ⟨b,0,none⟩) n n) l])→R (.pointer (some ⟨b,0,none⟩)) w')(hn:Nat.ble n maxLen=true:=by rfl):Yd P ρ N ⟨d,.box T x,ty,ps,af,g⟩ t w R:=by
 refine xV (cs:=(l.map (Value.int k)).toArray) (by rw[hx];rfl) (h _ _ (H.new (.alloc _ _ _) (wW (cs:=(l.map (Value.int k)).toArray) rfl hl (Nat.le_of_ble_eq_true hn) ?_) ?_))
 ·show(w.heap.push _)[w.heap.size]? =_
  simp
 intro c hb
 have:(Value.slice (some ⟨w.heap.size,0,none⟩) n n).ownBlock=some c:=hb
 cases this;exact aI _
theorem ns(h:(Rs.own (.int k) E (.slice (some ⟨b,0,none⟩) n n) l).inv w):l.length=n:=by
 rcases h.2 with⟨h,_⟩|⟨c,cap,cur,h,_⟩
 ·cases h
 injection h with h1 h2 h3;exact h2.symm
theorem jB{i:Int}(h:(Rs.own (.int k) E (.slice (some ⟨b,0,none⟩) n n) l).inv w)(hi:i<n):i<l.length:=by rw[ns h];exact hi
theorem oV(h:(Rs.own (.int k) E (.slice (some ⟨b,0,none⟩) n n) l).inv w):w.rangeAt b 0 (l.map (Value.int k)):=by
 intro j v hv
 have hr:=(ao h).cells (show 0<1 from aae) rfl
 have:=hr.2 j v (by rw[qC];exact hv)
 rw[Addr.add_mid]at this
 exact this
theorem jq(hT:Ag P T n)(h:(Rs.own (.int k) E (.slice (some ⟨b,0,none⟩) n n) l).inv w)(hx:ev t x= .pointer (some ⟨b,0,none⟩)):Rv P ⟨d,.load T x,ty,ps,af,g⟩ t w (.agg (l.map (Value.int k)).toArray):=
 rT (by rw[x_,ns h];exact hT) hx (oV h)
theorem OD(hT:Ag P T m)(hm:Nat.ble m n=true)(h:(Rs.own (.int k) E (.slice (some ⟨b,0,none⟩) n n) l).inv w)(hx:ev t x= .pointer (some ⟨b,0,none⟩)):Rv P ⟨d,.load T x,ty,ps,af,g⟩ t w (.agg ((l.take m).map (Value.int k)).toArray):=by
 have:=Z_ hm
 refine rT (by rw[x_,ζ,ns h,Nl this];exact hT) hx (fun j v hv=>oV h j v ?_)
 rw[Lr]at hv⊢
 rw[Ac]at hv
 split at hv
 ·exact hv
 cases hv
theorem M8(h:(Rs.own (.int k) E (.slice (some ⟨b,0,none⟩) n n) l).inv w):∃cs:Array Value,cs.size=n∧(Rs.blk b cs E).inv w:=by
 rcases h.2 with⟨h,_⟩|⟨c,cap,cur,h1,h2,h3,h4,h5,h6,h7⟩
 ·cases h
 injection h1 with a1 a2 a3
 injection a1 with a1;injection a1 with a1
 subst a1;subst a3
 exact⟨cur,by rw[h6];exact EI _,h3⟩
theorem jz(hT:Sz P T n)(H:St X w0 w L)(q:Nat)(hq:L[q]? =some (.own (.int k) E (.slice (some ⟨b,0,none⟩) n n) l))(hl:l'.length=n)(hx:ev t x= .pointer (some ⟨b,0,none⟩))(hy:ev t y= .agg (l'.map (Value.int k)).toArray)(h:∀w',St X w0 w' (L.set q (.own (.int k) E (.slice (some ⟨b,0,none⟩) n n) l'))→R undef w')(hn:Nat.ble n maxLen=true:=by rfl):Yd P ρ N ⟨d,.store T x y,ty,ps,af,g⟩ t w R:=by
 obtain⟨cs,h1,hb⟩:=M8 (H.Gt q hq)
 refine xZ (by simpa [hl] using hT) hx hy (fun j hj=>⟨?_,dR hb⟩) (by simp;intro x _;rfl) (h _ (H.put q hq ((qJ _ _ _).mono fun c _ hc=>by subst hc;rfl) ?_ (fun _ e=> .inl e)))
 ·rw[ak hb (Array.getElem?_eq_getElem (by simp at hj⊢;omega))];rfl
 have:=qE (l'.map (Value.int k)) 0 _ w hb
 refine wW (cs:=kD cs 0 (l'.map (Value.int k))) ?_ hl (Nat.le_of_ble_eq_true hn) this
 rw[uA _ _ _ (by simp;omega)]
 simp;omega
theorem OM{lo:Int}{kk:IntKind}(hT:Ar P T n 1)(hx:ev t x= .pointer (some ⟨b,0,none⟩))(hy:ev t y= .int kk lo)(h0:0≤lo)(h1:lo≤n):Rv P ⟨d,.slice T x none (some y) none,ty,ps,af,g⟩ t w (.slice (some ⟨b,0,none⟩) lo.toNat n):=by
 obtain⟨E,t1,t2⟩:=hT
 have hz:(sizeOf E).run P w= .ok 1 w:=by
  cases hi:P.info? E with
  |none=>simp[hi]at t2
  |some i=>simp only[hi,NS,Ll]at t2;simp[sizeOf,typeInfo,hi,t2]
 unfold Rv
 simp[execOp,hx,hy,Instr.sliceAt,run_underlying t1,Instr.sureAddr,Instr.sliceBounds,run_sliceBound,h0,h1,hz,Addr.add_lit]
theorem OI{c sz:Nat}(hT:Ar P T n sz)(hx:ev t x= .slice (some ⟨b,0,none⟩) m c)(hm:Nat.ble n m=true)(h0:Nat.ble 1 n=true):Rv P ⟨d,.sliceToArrayPointer T x,ty,ps,af,g⟩ t w (.pointer (some ⟨b,0,none⟩)):=by
 obtain⟨E,t1,t2⟩:=hT
 have h1:=Z_ hm
 have h2:=Z_ h0
 have h3:¬m<n:=a_
 unfold Rv
 simp[execOp,hx,Instr.arrayAt,run_underlying t1,h1,h3]
end
end Go.Proofs.YtmhkpafkadijgaaGreatDoor.Gw
