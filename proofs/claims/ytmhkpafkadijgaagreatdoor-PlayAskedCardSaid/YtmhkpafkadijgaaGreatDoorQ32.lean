/- A part of the proof of Rows.PlayAskedCardSaid; the conditions are that card's own. -/
import Derived.Test.YtmhkpafkadijgaaGreatDoorQ31
set_option linter.all false
namespace Go.Proofs.YtmhkpafkadijgaaGreatDoor.Gw
open Go GF
def iU(W:List GF)(m:Nat):List (List UInt8):=(List.range (2*m)).map fun i=>if i%2=0 then iJ W else jc W
def hF(W:List GF):List UInt8:=iJ W++10::(jc W++[10])
def hG(m W z:List GF):List UInt8:=(cC m++32::(cC W++[32,45,10]))++(cC z++[10])
def rep(n:Nat)(l:List UInt8):List UInt8:=(List.replicate n l).flatten
theorem xq(l:List UInt8):rep 0 l=[]:=rfl
theorem xp(n:Nat)(l:List UInt8):rep (n+1) l=l++rep n l:=by simp[rep,List.replicate_succ]
theorem O8(n:Nat)(l:List UInt8):rep (n+1) l=rep n l++l:=by simp[rep,List.replicate_succ']
theorem uv(n:Nat)(l:List UInt8):(rep n l).length=n*l.length:=by simp[rep]
theorem rG(W:List GF)(m:Nat):(iU W m).length=2*m:=by simp[iU]
theorem we(W:List GF):∀m,(iU W m).flatMap (fun l=>l++[10])=rep m (hF W)
 |0=>rfl
 |m+1=>by
  have e:iU W (m+1)=iU W m++[iJ W,jc W]:=by
   unfold iU
   rw[show 2*(m+1)=2*m+1+1 by omega,List.range_succ,List.range_succ,List.map_append,List.map_append,List.append_assoc]
   simp[show 2*m%2=0 by omega,show(2*m+1)%2=1 by omega]
  rw[e,List.flatMap_append,we W m,O8]
  simp[hF]
theorem Mf{W:List GF}{m j:Nat}(h:j<m):(iU W m)[2*j]? =some (iJ W):=by
 simp[iU,show 2*j<2*m by omega,show 2*j%2=0 by omega]
theorem Mg{W:List GF}{m j:Nat}(h:j<m):(iU W m)[2*j+1]? =some (jc W):=by
 simp[iU,show 2*j+1<2*m by omega,show(2*j+1)%2=1 by omega]
theorem Dm:∀L:List (List UInt8),(∀l∈L,∀b∈l,(b==10)=false)→dN 10 (L.flatMap fun l=>l++[10])=L++[[]]
 | [],_=>rfl
 |l::L,h=>by
  rw[List.flatMap_cons,List.append_assoc,List.singleton_append,ng 10 _ l (h l List.mem_cons_self),Dm L fun u hu=>h u (List.mem_cons_of_mem _ hu)];rfl
theorem qD{L:List (List UInt8)}{i:Nat}{l:List UInt8}(h:L[i]? =some l):at_ ByteArray.empty (L.map tx) (i:Int)=tx l:=by
 simp[at_,bF,h]
theorem Dc{N K B d b m0:Nat}{m W:List GF}{lines:List ByteArray}(hd:P3 d)(hb:P3 b)(hc:Cd N K B)(hN:N≤22)(hm:m.length=K)(hW:Wd N K B m W)(hm0:m0<7)(hA:∀j<m0,at_ ByteArray.empty lines ((2+2*j:Nat):Int)=tx (iJ W))(hB:∀j<m0,at_ ByteArray.empty lines ((2+2*j+1:Nat):Int)=tx (jc W))(hlen:2+2*m0<lines.length):∀(e j k:Nat)(out:List UInt8),j+e=m0→out.length≤1000*(j+1)→500000<k→
 bg.l0 (k+2*e) lines (cnt d b j) (tx out) (N:Int) (K:Int) (B:Int) (d:Int) (b:Int) ((2+2*j:Nat):Int)=bg.l0 k lines (cnt d b m0) (tx (out++rep e (hG m W (List.replicate (N-K) 0)))) (N:Int) (K:Int) (B:Int) (d:Int) (b:Int) ((2+2*m0:Nat):Int)
 |0,j,k,out,hj,ho,hk=>by
  obtain rfl:j=m0:=by omega
  rw[xq,List.append_nil];rfl
 |e+1,j,k,out,hj,ho,hk=>by
  obtain⟨q1,q2,q3,q4⟩:=id hc
  have hlen1:=gL m
  have hlen2:=gL W
  have hWl:=hW.len
  have hlen3:=gL (List.replicate (N-K) 0)
  rw[List.length_replicate]at hlen3
  have r1:=Pv (k:=k+2*e+1) (i:=2+2*j) (lines:=lines) (out:=out) (j:=j) hd hb (hA j (by omega)) (by omega) (by omega) hc hN hm hW (by omega) (by omega) (by omega)
  have r2:=Pz (k:=k+2*e) (i:=2+2*j+1) (lines:=lines) (n:=cnt d b (j+1)) (d0:=(d:Int)) (b0:=(b:Int)) (out:=out++(cC m++32::(cC W++[32,45,10]))) (hB j (by omega)) (by omega) (by omega) hc hN hW (by simp;omega) (by omega)
  have r3:=Dc hd hb hc hN hm hW hm0 hA hB hlen e (j+1) k (out++(cC m++32::(cC W++[32,45,10]))++(cC (List.replicate (N-K) 0)++[10])) (by omega) (by simp;omega) hk
  rw[show k+2*(e+1)=k+2*e+1+1 by omega]
  refine r1.trans (r2.trans ?_)
  rw[show 2+2*j+1+1=2+2*(j+1) by omega,r3,xp]
  simp[hG]
def LS(N K B d b:Nat)(W:List GF)(m0:Nat):List (List UInt8):=iH N K B::mV d b::(iU W m0++[kL])
theorem Px{N K B d b m0 k:Nat}{m W:List GF}(hd:P3 d)(hb:P3 b)(hc:Cd N K B)(hN:N≤22)(hm:m.length=K)(hW:Wd N K B m W)(hm0:m0<7)(hk:600000<k):
 bg.f k (tx ((LS N K B d b W m0).flatMap fun l=>l++[10]))=some (tx ([111,107,10,111,107,10]++rep m0 (hG m W (List.replicate (N-K) 0))++(bP (3*(d-1)+(b-1)) m0 9++[10]))):=by
 obtain⟨q1,q2,q3,q4⟩:=id hc
 obtain⟨f1,_,_,_,f5⟩:=fw (n:=N) (by omega)
 obtain⟨g1,_,_,_,g5⟩:=fw (n:=K) (by omega)
 obtain⟨h1,_,_,_,h5⟩:=fw (n:=B) (by omega)
 have hd256:d<256:=by rcases hd with rfl|rfl|rfl<;>decide
 have hb256:b<256:=by rcases hb with rfl|rfl|rfl<;>decide
 obtain⟨i1,_,_,_,i5⟩:=fw (n:=d) hd256
 obtain⟨j1,_,_,_,j5⟩:=fw (n:=b) hb256
 have hlen1:=gL m
 have hlen2:=gL W
 have hWl:=hW.len
 have hlen3:=gL (List.replicate (N-K) 0)
 rw[List.length_replicate]at hlen3
 have hp:3*(d-1)+(b-1)<9:=by rcases hd with rfl|rfl|rfl<;>rcases hb with rfl|rfl|rfl<;>decide
 have hbT:(hG m W (List.replicate (N-K) 0)).length≤500:=by simp[hG];omega
 have hcl:∀l∈LS N K B d b W m0,∀b∈l,(b==10)=false:=by
  intro l hl
  unfold LS at hl
  rcases List.mem_cons.1 hl with rfl|hl
  ·exact oc (by decide) (oc (nz f5) (oc (nz g5) (nz h5)))
  rcases List.mem_cons.1 hl with rfl|hl
  ·exact oc (by decide) (oc (nz i5) (nz j5))
  rcases List.mem_append.1 hl with hl|hl
  ·obtain⟨i,_,rfl⟩:=List.mem_map.1 hl
   split
   ·exact oc (by decide) (nz (sG W))
   ·exact oc (by decide) (nz (sG W))
  ·rw[List.mem_singleton.1 hl];decide
 have hbS:(hF W).length≤500:=by simp[hF,iJ,jc];omega
 have htl:((LS N K B d b W m0).flatMap fun l=>l++[10]).length≤100000:=by
  have:((LS N K B d b W m0).flatMap fun l=>l++[10])=iH N K B++[10]++(mV d b++[10])++rep m0 (hF W)++(kL++[10]):=by
   unfold LS;rw[List.flatMap_cons,List.flatMap_cons,List.flatMap_append,we];simp
  rw[this]
  have h2:(rep m0 (hF W)).length≤7*500:=by rw[uv];exact Nat.mul_le_mul (by omega) hbS
  simp only[List.length_append,iH,mV,kL,List.length_cons,List.length_nil];omega
 have hLl:(LS N K B d b W m0).length=2*m0+3:=by simp[LS,rG]
 have hs:(dN 10 ((LS N K B d b W m0).flatMap fun l=>l++[10])).map tx=(LS N K B d b W m0).map tx++[tx []]:=by rw[Dm _ hcl];simp
 have hLl2:((LS N K B d b W m0).map tx++[tx []]).length=2*m0+4:=by simp[hLl]
 have hw1:IntKind.i64.wrap ((((LS N K B d b W m0).map tx++[tx []]).length:Int)-1)=((2*m0+3:Nat):Int):=by rw[hLl2,ca (by omega) (by omega)];omega
 have hlast:at_ ByteArray.empty ((LS N K B d b W m0).map tx++[tx []]) ((2*m0+3:Nat):Int)=tx []:=by
  unfold at_
  rw[Int.toNat_natCast,bF,List.getElem?_append_right (by simp[hLl]),List.length_map,hLl,Nat.sub_self];rfl
 unfold bg.f
 rw[PJ (by omega),aJ,hs,hw1,aF (by omega),hlast,bh (by rfl),aF (by omega)]
 unfold bg.j0
 have hdel:((LS N K B d b W m0).map tx++[tx []]).take ((2*m0+3:Nat):Int).toNat++((LS N K B d b W m0).map tx++[tx []]).drop (((LS N K B d b W m0).map tx++[tx []]).length:Int).toNat=(LS N K B d b W m0).map tx:=by
  rw[Int.toNat_natCast,Int.toNat_natCast,List.drop_length,List.append_nil]
  have:2*m0+3=((LS N K B d b W m0).map tx).length:=by rw[List.length_map,hLl]
  rw[this,List.take_left]
 rw[hdel]
 obtain⟨k,rfl⟩:∃k',k=k'+31+2*m0+1+1:=⟨k-33-2*m0,by omega⟩
 have hml:((LS N K B d b W m0).map tx).length=2*m0+3:=by rw[List.length_map,hLl]
 have r1:=Pu (k:=k+31+2*m0+1) (i:=0) (lines:=(LS N K B d b W m0).map tx) (n:=List.replicate 16 0) (out:=[]) (c1:=7) (c2:=3) (c3:=0) (d0:=0) (b0:=0) (qD rfl) (by omega) (by omega) hc (by simp) (by omega)
 have r2:=Py (k:=k+31+2*m0) (i:=1) (lines:=(LS N K B d b W m0).map tx) (n:=List.replicate 16 0) (out:=[]++[111,107,10]) (c1:=N) (c2:=K) (c3:=B) (d0:=0) (b0:=0) hd hb (qD rfl) (by omega) (by omega) (by simp) (by omega)
 have e0:List.replicate 16 (0:Int)=cnt d b 0:=by rcases hd with rfl|rfl|rfl<;>rcases hb with rfl|rfl|rfl<;>rfl
 have gA:∀j<m0,at_ ByteArray.empty ((LS N K B d b W m0).map tx) ((2+2*j:Nat):Int)=tx (iJ W):=fun j hj=>qD (by
  rw[show 2+2*j=2*j+1+1 by omega]
  show(iU W m0++[kL])[2*j]? =_
  rw[List.getElem?_append_left (by rw[rG];omega),Mf hj])
 have gB:∀j<m0,at_ ByteArray.empty ((LS N K B d b W m0).map tx) ((2+2*j+1:Nat):Int)=tx (jc W):=fun j hj=>qD (by
  rw[show 2+2*j+1=(2*j+1)+1+1 by omega]
  show(iU W m0++[kL])[2*j+1]? =_
  rw[List.getElem?_append_left (by rw[rG];omega),Mg hj])
 have gC:at_ ByteArray.empty ((LS N K B d b W m0).map tx) ((2+2*m0:Nat):Int)=tx kL:=qD (by
  rw[show 2+2*m0=2*m0+1+1 by omega]
  show(iU W m0++[kL])[2*m0]? =_
  rw[List.getElem?_append_right (by rw[rG];exact aI _),rG,Nat.sub_self];rfl)
 have r3:=Dc (lines:=(LS N K B d b W m0).map tx) hd hb hc hN hm hW hm0 gA gB (by omega) m0 0 (k+31) ([]++[111,107,10]++[111,107,10]) (by omega) (by simp) (by omega)
 have hrl:(rep m0 (hG m W (List.replicate (N-K) 0))).length≤7*500:=by rw[uv];exact Nat.mul_le_mul (by omega) hbT
 have r4:=Pt (k:=k) (i:=2+2*m0) (m:=m0) (lines:=(LS N K B d b W m0).map tx) (out:=[]++[111,107,10]++[111,107,10]++rep m0 (hG m W (List.replicate (N-K) 0))) (c1:=N) (c2:=K) (c3:=B) (d0:=d) (b0:=b) hd hb hm0 gC (by omega) (by omega) (by simp only[List.length_append,List.length_cons,List.length_nil];omega)
 rw[show tx ([]:List UInt8)=ByteArray.empty from rfl]at r1
 rw[show((0:Nat):Int)=0 from rfl]at r1
 refine r1.trans ?_
 refine Eq.trans r2 ?_
 rw[e0]
 refine Eq.trans r3 ?_
 refine Eq.trans r4 ?_
 rw[bg.l0,aQ (by omega)]
 simp
theorem Be{N K B m0:Nat}{m W:List GF}{a3 a4:Int}(hc:Cd N K B)(hN:N≤22)(hm:m.length=K)(hW:Wd N K B m W)(hm0:m0<7)(h4:IntKind.i64.wrap (Int.tmod a4 7)=(m0:Int)):∀(e j k:Nat)(s t:List UInt8),j+e=m0→s.length≤1000*(j+1)→t.length≤1000*(j+1)→5000<k→
 cw.l0 (k+e+1) a3 a4 ((N:Int),(K:Int),(B:Int)) (bi W,0) (tx (cC W)) (tx s) (tx t) (j:Int)=cw.j0 (cw.l1 k) k a3 a4 (tx (s++rep e (hF W))) (tx (t++rep e (hG m W (List.replicate (N-K) 0))))
 |0,j,k,s,t,hj,hs,ht,hk=>by
  rw[cw.l0,h4,aQ (by omega),xq,xq,List.append_nil,List.append_nil]
 |e+1,j,k,s,t,hj,hs,ht,hk=>by
  obtain⟨q1,q2,q3,q4⟩:=id hc
  have hlen1:=gL m
  have hlen2:=gL W
  have hWl:=hW.len
  have hlen3:=gL (List.replicate (N-K) 0)
  rw[List.length_replicate]at hlen3
  have wNK:IntKind.i64.wrap ((N:Int)-(K:Int))=((N-K:Nat):Int):=by rw[ca (by omega) (by omega)];omega
  rw[show k+(e+1)+1=(k+e+1)+1 by omega,cw.l0,h4,bh (by omega)]
  simp only[]
  rw[show lG=tx [100,101,99,111,100,101,32] from rfl,show nS=tx [10,115,121,110,100,32] from rfl,show fE=tx [10] from rfl,show fu=tx [32] from rfl,show mH=tx [32,45,10] from rfl]
  rw[wNK,List.take_length,Int.toNat_natCast,nu,hW.msg,gZ,xt (by omega) (by omega),aJ,xt (by rw[List.length_replicate];omega) (by omega),lF,lF]
  simp only[aJ]
  repeat rw[gF]
  have sz:∀a b:List UInt8,a.length+b.length≤100000→(tx a).size+(tx b).size≤140737488355328:=fun a b h=>by rw[cK,cK];omega
  rw[aF (sz _ _ (by(try simp only[List.length_append,List.length_cons,List.length_nil]);omega)),aF (sz _ _ (by(try simp only[List.length_append,List.length_cons,List.length_nil]);omega)),aF (sz _ _ (by(try simp only[List.length_append,List.length_cons,List.length_nil]);omega)),aF (sz _ _ (by(try simp only[List.length_append,List.length_cons,List.length_nil]);omega)),aF (sz _ _ (by(try simp only[List.length_append,List.length_cons,List.length_nil]);omega)),aF (by rw[bi_length];omega),
   aF (sz _ _ (by(try simp only[List.length_append,List.length_cons,List.length_nil]);omega)),aF (sz _ _ (by(try simp only[List.length_append,List.length_cons,List.length_nil]);omega)),aF (sz _ _ (by(try simp only[List.length_append,List.length_cons,List.length_nil]);omega)),aF (sz _ _ (by(try simp only[List.length_append,List.length_cons,List.length_nil]);omega)),aF (by omega),aF (sz _ _ (by(try simp only[List.length_append,List.length_cons,List.length_nil]);omega)),aF (sz _ _ (by(try simp only[List.length_append,List.length_cons,List.length_nil]);omega)),bT (by omega)]
  have es:s++[100,101,99,111,100,101,32]++cC W++[10,115,121,110,100,32]++cC W++[10]=s++hF W:=by simp[hF,iJ,jc]
  have et:t++cC m++[32]++cC W++[32,45,10]++cC (List.replicate (N-K) 0)++[10]=t++hG m W (List.replicate (N-K) 0):=by simp[hG]
  rw[es,et,Be hc hN hm hW hm0 h4 e (j+1) k _ _ (by omega) (by simp[hF,iJ,jc];omega) (by simp[hG];omega) hk,xp,xp,List.append_assoc,List.append_assoc]
theorem ND(p m i:Nat):bP p m (i+1)=bP p m i++((if 0<i then [32]else [])++num ((if i=p then m else 0:Nat):Int)):=by
 unfold bP
 rw[List.range_succ,List.flatMap_append];simp
theorem NC{p m i:Nat}(hp:p<9)(hm:m<7)(hi:i<10):(bP p m i).length≤17:=by
 have h:((List.range 9).all fun p=>(List.range 7).all fun m=>(List.range 10).all fun i=>Nat.ble (bP p m i).length 17)=true:=by decide+kernel
 exact Nat.le_of_ble_eq_true (List.all_eq_true.1 (List.all_eq_true.1 (List.all_eq_true.1 h p (List.mem_range.2 hp)) m (List.mem_range.2 hm)) i (List.mem_range.2 hi))
theorem Bf{p m0:Nat}{a3 a4:Int}{s t:ByteArray}(hp:p<9)(hm0:m0<7)(h3:IntKind.i64.wrap (IntKind.i64.wrap (IntKind.i64.wrap (3*IntKind.i64.wrap (IntKind.i64.wrap (1+IntKind.i64.wrap (Int.tmod a3 3))-1))+IntKind.i64.wrap (1+IntKind.i64.wrap (Int.tmod (IntKind.u8.wrap (Int.tdiv a3 3)) 3)))-1)=(p:Int))(h4:IntKind.i64.wrap (Int.tmod a4 7)=(m0:Int)):∀(e i k:Nat),i+e=9→
 cw.l1 (k+e+1) a3 a4 s t (tx (bP p m0 i)) (i:Int)=cw.j1 k s t (tx (bP p m0 9))
 |0,i,k,hi=>by
  obtain rfl:i=9:=by omega
  rw[cw.l1,aQ (by omega)]
 |e+1,i,k,hi=>by
  have hsh:=NC (i:=i) hp hm0 (by omega)
  have hnum:∀x:Nat,x<7→(num (x:Int)).length≤4:=fun x hx=>(fw (n:=x) (by omega)).1
  have hj:∀x:Nat,x<7→x=(if i=p then m0 else 0)→cw.j2 (cw.l1 (k+e+1)) (k+e+1) a3 a4 s t (tx (bP p m0 i)) (i:Int) (x:Int)=cw.j1 k s t (tx (bP p m0 9)):=fun x hx hxe=>by
   have hn:=hnum x hx
   have ih:=Bf (s:=s) (t:=t) hp hm0 h3 h4 e (i+1) k (by omega)
   rw[ND,←hxe]at ih
   unfold cw.j2
   by_cases h0:0<i
   ·rw[if_pos h0]at ih
    rw[bh (by omega),show fu=tx [32] from rfl,aF (by rw[cK,cK];simp;omega),gF]
    unfold cw.j3
    rw[nR (by omega),aJ,aF (by rw[cK,cK];simp;omega),gF,bT (by omega),List.append_assoc]
    exact ih
   ·rw[if_neg h0,List.nil_append]at ih
    rw[aQ (by omega)]
    unfold cw.j3
    rw[nR (by omega),aJ,aF (by rw[cK,cK];omega),gF,bT (by omega)]
    exact ih
  rw[show k+(e+1)+1=(k+e+1)+1 by omega,cw.l1,bh (by omega),h3,h4]
  by_cases hip:i=p
  ·rw[bh (by omega)];exact hj m0 hm0 (by rw[if_pos hip])
  ·rw[aQ (by omega)];exact hj 0 (by omega) (by rw[if_neg hip])
theorem ED{a0 a1 a2 a3 a4:Int}{l:List Int}(b0:0≤a0∧a0≤255)(b1:0≤a1∧a1≤255)(b2:0≤a2∧a2≤255)(b3:0≤a3∧a3≤255)(b4:0≤a4∧a4≤255)(hl:cR l=true):cw.f 1000000 a0 a1 a2 a3 a4 l=some true:=by
 obtain⟨N,K,B,hc,hN,e1⟩:=PF b0 b1 b2
 obtain⟨q1,q2,q3,q4⟩:=id hc
 obtain⟨p,rfl⟩:=yE hl
 obtain⟨m,hm,e2⟩:=Mj (N:=N) (K:=K) (B:=B) (by omega) p
 obtain⟨W,hW,e3⟩:=O7 (k:=1000000) hc hm (by omega)
 have hWl:=hW.len
 have hlen2:=gL W
 obtain⟨n3,rfl⟩:∃n:Nat,a3=n:=⟨a3.toNat,by omega⟩
 obtain⟨n4,rfl⟩:∃n:Nat,a4=n:=⟨a4.toNat,by omega⟩
 have tm:∀x y:Nat,Int.tmod (x:Int) (y:Int)=((x%y:Nat):Int):=fun x y=>by rw[Int.tmod_eq_emod_of_nonneg (by omega)];omega
 obtain⟨d,hd⟩:∃d,d=1+n3%3:=⟨_,rfl⟩
 obtain⟨b,hb⟩:∃b,b=1+n3/3%3:=⟨_,rfl⟩
 have hD:IntKind.i64.wrap (1+IntKind.i64.wrap (Int.tmod (n3:Int) 3))=(d:Int):=by
  rw[show(3:Int)=((3:Nat):Int) from rfl,tm,iB (by omega),ca (by omega) (by omega)];omega
 have hB:IntKind.i64.wrap (1+IntKind.i64.wrap (Int.tmod (IntKind.u8.wrap (Int.tdiv (n3:Int) 3)) 3))=(b:Int):=by
  have ed:Int.tdiv (n3:Int) 3=((n3/3:Nat):Int):=by rw[Int.tdiv_eq_ediv_of_nonneg (by omega)];omega
  rw[ed,lY (by omega) (by omega),show(3:Int)=((3:Nat):Int) from rfl,tm,iB (by omega),ca (by omega) (by omega)];omega
 have h4:IntKind.i64.wrap (Int.tmod (n4:Int) 7)=((n4%7:Nat):Int):=by
  rw[show(7:Int)=((7:Nat):Int) from rfl,tm,iB (by omega)]
 have h3:IntKind.i64.wrap (IntKind.i64.wrap (IntKind.i64.wrap (3*IntKind.i64.wrap (IntKind.i64.wrap (1+IntKind.i64.wrap (Int.tmod (n3:Int) 3))-1))+IntKind.i64.wrap (1+IntKind.i64.wrap (Int.tmod (IntKind.u8.wrap (Int.tdiv (n3:Int) 3)) 3)))-1)=((3*(d-1)+(b-1):Nat):Int):=by
  rw[hD,hB,ca (x:=(d:Int)-1) (by omega) (by omega),ca (x:=3*((d:Int)-1)) (by omega) (by omega),ca (x:=3*((d:Int)-1)+(b:Int)) (by omega) (by omega),ca (by omega) (by omega)];omega
 have hd3:P3 d:=by unfold P3;omega
 have hb3:P3 b:=by unfold P3;omega
 have hp:3*(d-1)+(b-1)<9:=by omega
 have hm0:n4%7<7:=Nat.mod_lt _ (by decide)
 generalize n4%7=m0 at h4 hm0
 obtain⟨f1,_⟩:=fw (n:=N) (by omega)
 obtain⟨g1,_⟩:=fw (n:=K) (by omega)
 obtain⟨h1,_⟩:=fw (n:=B) (by omega)
 obtain⟨i1,_⟩:=fw (n:=d) (by omega)
 obtain⟨j1,_⟩:=fw (n:=b) (by omega)
 have hlen1:=gL m
 have hlen3:=gL (List.replicate (N-K) 0)
 rw[List.length_replicate]at hlen3
 have hcl:(iH N K B).length≤30:=by simp[iH];omega
 have sz:∀a b:List UInt8,a.length+b.length≤100000→(tx a).size+(tx b).size≤140737488355328:=fun a b h=>by rw[cK,cK];omega
 have hbS:(hF W).length≤500:=by simp[hF,iJ,jc];omega
 have hbT:(hG m W (List.replicate (N-K) 0)).length≤500:=by simp[hG];omega
 have hrS:(rep m0 (hF W)).length≤7*500:=by rw[uv];exact Nat.mul_le_mul (by omega) hbS
 have hrT:(rep m0 (hG m W (List.replicate (N-K) 0))).length≤7*500:=by rw[uv];exact Nat.mul_le_mul (by omega) hbT
 have hpl:=Cu hp hm0
 unfold cw.f
 rw[e1,aJ]
 simp only[]
 rw[e2,aJ,e3,aJ,KR (by omega) (by omega) (by omega),aJ,hD,hB]
 simp only[]
 rw[nR (by omega),nR (by omega),xt (by omega) (by omega),lF]
 rw[show mI=tx [112,105,99,107,32] from rfl,show fu=tx [32] from rfl,show fE=tx [10] from rfl,show vU=tx [111,107,10,111,107,10] from rfl]
 simp only[aJ]
 repeat rw[gF]
 rw[aF (sz _ _ (by(try simp only[List.length_append,List.length_cons,List.length_nil]);omega)),aF (sz _ _ (by(try simp only[List.length_append,List.length_cons,List.length_nil]);omega)),aF (sz _ _ (by(try simp only[List.length_append,List.length_cons,List.length_nil]);omega)),aF (sz _ _ (by(try simp only[List.length_append,List.length_cons,List.length_nil]);omega)),aF (sz _ _ (by(try simp only[List.length_append,List.length_cons,List.length_nil]);omega))]
 have hl0:=Be (a3:=(n3:Int)) hc hN hm hW hm0 h4 m0 0 (1000000-m0-1) (iH N K B++[10]++[112,105,99,107,32]++num (d:Int)++[32]++num (b:Int)++[10]) [111,107,10,111,107,10] (by omega) (by simp only[List.length_append,List.length_cons,List.length_nil];omega) (by simp) (by omega)
 rw[show 1000000-m0-1+m0+1=1000000 by omega]at hl0
 rw[show(0:Int)=((0:Nat):Int) from rfl]
 refine Eq.trans hl0 ?_
 unfold cw.j0
 have hl1:=Bf (s:=tx (iH N K B++[10]++[112,105,99,107,32]++num (d:Int)++[32]++num (b:Int)++[10]++rep m0 (hF W))) (t:=tx ([111,107,10,111,107,10]++rep m0 (hG m W (List.replicate (N-K) 0)))) hp hm0 h3 h4 9 0 (1000000-m0-1-10) (by omega)
 rw[show 1000000-m0-1-10+9+1=1000000-m0-1 by omega]at hl1
 refine Eq.trans hl1 ?_
 unfold cw.j1
 have hkn:=J9 (1000000-m0-1-10-100000)
 rw[show 1000000-m0-1-10-100000+100000=1000000-m0-1-10 by omega]at hkn
 have htext:iH N K B++[10]++[112,105,99,107,32]++num (d:Int)++[32]++num (b:Int)++[10]++rep m0 (hF W)++[97,115,107,101,100,10]=(LS N K B d b W m0).flatMap fun l=>l++[10]:=by
  unfold LS
  rw[List.flatMap_cons,List.flatMap_cons,List.flatMap_append,we]
  simp[mV,kL]
 have hrun:=Px (k:=1000000-m0-1-10) hd3 hb3 hc hN hm hW hm0 (by omega)
 rw[hkn,aJ,cond_true,show vV=tx [97,115,107,101,100,10] from rfl,show fE=tx [10] from rfl,aF (sz _ _ (by(try simp only[List.length_append,List.length_cons,List.length_nil]);omega)),gF,htext,hrun,aJ]
 repeat rw[gF]
 rw[aF (sz _ _ (by(try simp only[List.length_append,List.length_cons,List.length_nil]);omega)),aF (sz _ _ (by(try simp only[List.length_append,List.length_cons,List.length_nil]);omega))]
 congr 1
 rw[decide_eq_true_iff,sc]
 simp
end Go.Proofs.YtmhkpafkadijgaaGreatDoor.Gw
