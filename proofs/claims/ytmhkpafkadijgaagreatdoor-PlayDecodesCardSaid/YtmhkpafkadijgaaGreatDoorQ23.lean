/- A part of the proof of Rows.PlayDecodesCardSaid; the conditions are that card's own. -/
import Derived.Test.YtmhkpafkadijgaaGreatDoorQ22
import Derived.Sort.OwnSorted
import Derived.Laws.BytesArg
set_option linter.all false
set_option maxRecDepth 100000
set_option maxHeartbeats 4000000
namespace Go.Proofs.YtmhkpafkadijgaaGreatDoor.Gw
open Go Go.RowKit Go.Shelf Go.Sort
variable[de]
section
variable{ρ:Option Nat}{N:Nat}{t:Fr}{w w0:World}{X:Nat→Prop}{L:List Rs}{R:Value→World→Prop}{d:Option Nat}{ty T U E:TypeId}{ps:String}{af:Array Edge}{g:Option (Nat×Bool)}{x y z:Operand}{ats:Array TypeId}
theorem D8{P:Program}(hz:Zr P 70 #[.pointer none,.slice none 0 0])(H:St X w0 w L)(h:∀b w',St X w0 w' (L++[.df b (.slice none 0 0) (sb ByteArray.empty)])→R (.pointer (some ⟨b,0,none⟩)) w'):Yd P ρ N ⟨d,.alloc 70,ty,ps,af,g⟩ t w R:=by
 obtain⟨v,h1,h2⟩:=hz
 refine uK h1 h2 (h _ _ (H.new (.alloc _ _ _) Fv ?_))
 rintro b (e|e)
 ·exact NF e.symm
 cases e
theorem ma{b:Nat}{v:Value}{s s2:ByteArray}(H:St X w0 w L)(q:Nat)(hq:L[q]? =some (.df b v (sb s)))(hf:En Tryz.prog 44)(hx:ev t x= .pointer (some ⟨b,0,none⟩))(hy:ev t y= .string s2)(hn:s.size+s2.size≤140737488355328)(h:∀v' w',St X w0 w' (L.set q (.df b v' (sb (cat s s2))))→R (.tuple #[.int .i64 (s2.size:Int),.nilIface]) w'):Yd Tryz.prog ρ N ⟨d,.call ⟨.value (.func 44),#[x,y],ats⟩,ty,ps,af,g⟩ t w R:=by
 refine au hf (vs:=[.pointer (some ⟨b,0,none⟩),.string s2]) (by simp[hx,hy]) ((FA (H.Gt q hq) (by simpa using hn)).mono ?_)
 rintro _ w' ⟨rfl,v',K⟩
 rw[PB]at K
 have:=H.aV q hq K
 rw[fQ]at this
 exact⟨_,rfl,h v' w' this⟩
theorem D9{b:Nat}{v:Value}{s:ByteArray}(H:St X w0 w L)(q:Nat)(hq:L[q]? =some (.df b v (sb s)))(hf:En Tryz.prog 45)(hx:ev t x= .pointer (some ⟨b,0,none⟩))(h:∀w',St X w0 w' (L.set q .gQ)→R (.string s) w'):Yd Tryz.prog ρ N ⟨d,.call ⟨.value (.func 45),#[x],ats⟩,ty,ps,af,g⟩ t w R:=by
 refine au hf (vs:=[.pointer (some ⟨b,0,none⟩)]) (by simp[hx]) ((Fy (H.Gt q hq)).mono ?_)
 rintro _ w' ⟨rfl,hc⟩
 exact⟨_,rfl,h w' (H.put q hq hc trivial (fun _ e=>e.elim))⟩
theorem xG:∀m:List ByteArray,bm.str.all m=(m.map fun s=>s.data.toList).map encStr
 | []=>rfl
 |a::m=>by
  show [Value.string a]++bm.str.all m=_
  rw[xG m];rfl
theorem Na{E:TypeId}{v:Value}{l:List ByteArray}{i j:Nat}(h:(Rs.own .str E v l).inv w)(hl0:0<l.length)(hij:i≤j)(hj:j≤l.length):
 Calls Tryz.prog 43 #[v,.int .i64 i,.int .i64 j] w fun e w'=>∃v',e= .returned v'∧(Rs.own .str E v' (l.take i++l.drop j)).inv w'∧Ch (Rs.own .str E v l).fp w w'∧v'.ownBlock=v.ownBlock:=by
 rcases id h.2 with⟨hv,hl⟩|⟨g,cap,cur,hv,_,hh,h4,h5,h6,h7⟩
 ·omega
 subst hv
 obtain⟨m,hm⟩:∃m:List (List UInt8),m=l.map fun s=>s.data.toList:=⟨_,rfl⟩
 have hn:m.length=l.length:=by rw[hm,x_]
 have e7:cur.toList.take l.length=m.map encStr:=by rw[hm,←xG,←h7];congr 1;exact(EI _).symm
 have hcell:∀k,k<l.length→cur[k]? =some (encStr (m.toArray[k]!)):=fun k hk=>by
  have hk':k<m.length:=a_
  have:(cur.toList.take l.length)[k]? =some (encStr m[k]):=by rw[e7];simp[hk']
  rw[Ac,M_ hk,Array.getElem?_toList]at this
  rw[this,getElem!_pos m.toArray k (by simpa using hk')]
  simp
 have hH:Holds encStr w g 0 m.toArray:=fun k hk=>by
  have hk':k<l.length:=by rw[←hn];simpa using hk
  refine⟨?_,by simp[World.frozen?,hh]⟩
  have:=hcell k hk'
  simp only[World.cell?,hh,FW]
  exact this
 have c:=Tryz.slices_Delete_string g 0 cap i j m w hH (by rw[hn];exact h4) (by unfold maxLen at h5;omega) hij (by rw[hn];exact hj)
 rw[hn]at c
 obtain⟨D,hDe⟩:∃D,D=m.take i++m.drop j++List.replicate (j-i) []:=⟨_,rfl⟩
 rw[←hDe]at c
 refine c.mono ?_
 rintro _ w' ⟨rfl,q,rfl⟩
 have hlen:(l.take i++l.drop j).length=l.length-(j-i):=l_
 have hD:D.length=l.length:=by rw[hDe];simp[hn];omega
 have hcs:cur.size=cap:=h6.trans (EI _)
 refine⟨_,rfl,⟨bm.fC _ _,.inr ⟨g,cap,putCells encStr 0 D.toArray cur,by rw[hlen],jc _,?_,by rw[hlen];omega,h5,?_,?_⟩⟩,?_,rfl⟩
 ·have hh':(Sort.ahead w q).heap[g]? =some (.cells cur E (0,0)):=hh
  simp[putRow,mapBlock,Ns,onCells]
  exact⟨_,hh,rfl⟩
 ·simp only[putCells,Array.size_mapIdx];exact h6
 ·have ht:=take_putCells cur D (by rw[hD];omega)
  rw[hD]at ht
  have e:(l.take i++l.drop j).length*bm.str.sz≤l.length:=by rw[hlen];show _*1≤_;omega
  have e2:(putCells encStr 0 D.toArray cur).toList.take ((l.take i++l.drop j).length*bm.str.sz)=(D.map encStr).take ((l.take i++l.drop j).length*bm.str.sz):=by
   rw[←ht,abb,Nl e]
  rw[e2,xG,hDe,Fg]
  have e3:(l.take i++l.drop j).length*bm.str.sz=((m.take i++m.drop j).map encStr).length:=by
   rw[x_,hlen];simp[hn];show _*1=_;omega
  rw[e3,abd,hm]
  simp[aaA,List.map_drop]
 refine⟨rfl,rfl,rfl,by simp[putRow,mapBlock,Sort.ahead],fun b hb hx=>?_⟩
 have:¬b=g:=fun e=>hx (by subst e;rfl)
 simp[putRow,mapBlock,Sort.ahead,Ns,show ¬g=b from fun e=>this e.symm]
theorem Q2{E:TypeId}{v:Value}{l:List ByteArray}{i j:Int}(H:St X w0 w L)(q:Nat)(hq:L[q]? =some (.own .str E v l))(hf:En Tryz.prog 43)(hx:ev t x=v)(hy:ev t y= .int .i64 i)(hz:ev t z= .int .i64 j)(h0:0≤i)(h1:i≤j)(h2:j≤l.length)(h3:0<l.length)(h:∀v' w',St X w0 w' (L.set q (.own .str E v' (l.take i.toNat++l.drop j.toNat)))→R v' w'):Yd Tryz.prog ρ N ⟨d,.call ⟨.value (.func 43),#[x,y,z],ats⟩,ty,ps,af,g⟩ t w R:=by
 have ei:((i.toNat:Nat):Int)=i:=KU h0
 have ej:((j.toNat:Nat):Int)=j:=KU a_
 refine au hf (vs:=[v,.int .i64 (i.toNat:Nat),.int .i64 (j.toNat:Nat)]) (by simp[hx,hy,hz,ei,ej]) ((Na (H.Gt q hq) h3 a_ a_).mono ?_)
 rintro _ w' ⟨v',rfl,k1,k2,k3⟩
 refine⟨_,rfl,h v' w' (H.put q hq k2 k1 fun b hb=> .inl ?_)⟩
 show v.ownBlock=some b
 rw[←k3];exact hb
theorem OL{P:Program}{b n:Nat}{lo:Int}{k:IntKind}(hT:Ar P T n 1)(hx:ev t x= .pointer (some ⟨b,0,none⟩))(hy:ev t y= .int k lo)(h0:0≤lo)(h1:lo<n):Rv P ⟨d,.slice T x (some y) none none,ty,ps,af,g⟩ t w (.slice (some ⟨b,lo.toNat,none⟩) (n-lo.toNat) (n-lo.toNat)):=by
 obtain⟨E,t1,t2⟩:=hT
 have hz:(sizeOf E).run P w= .ok 1 w:=by
  cases hi:P.info? E with
  |none=>simp[hi]at t2
  |some i=>simp only[hi,NS,Ll]at t2;simp[sizeOf,typeInfo,hi,t2]
 have hne:¬n=lo.toNat:=a_
 have hle:lo≤n:=a_
 unfold Rv
 simp[execOp,hx,hy,Instr.sliceAt,run_underlying t1,Instr.sureAddr,Instr.sliceBounds,run_sliceBound,h0,hle,hz,hne,Addr.add_lit]
theorem Ob{P:Program}{b n:Nat}{lo:Int}{T' e E:TypeId}{l:List Int}(hs:P.underlying T=some (.slice e))(he:P.underlying e=some (.int .u8))(hd:P.underlying T'=some .string)(h:(Rs.own (.int .u8) E (.slice (some ⟨b,0,none⟩) n n) l).inv w)(hx:ev t x= .slice (some ⟨b,lo.toNat,none⟩) (n-lo.toNat) (n-lo.toNat)):
 Rv P ⟨d,.convert T T' x,ty,ps,af,g⟩ t w (.string (strOfNums (l.drop lo.toNat))):=by
 have hl:=sD h
 have hr:=yw h
 have hc:=run_convert_bytes_arg (P:=P) w T e hs he b lo.toNat (n-lo.toNat) (n-lo.toNat) (l.drop lo.toNat) aaq (fun i hi=>by
  have:=hr (lo.toNat+i) (.int .u8 ((l.drop lo.toNat).getD i 0)) (by
   have:lo.toNat+i<l.length:=a_
   rw[Lr,C_ this,bF,IE,C_ this];rfl)
  simpa using this) T' hd
 unfold Rv
 simp[execOp,hx,hc]
end
end Go.Proofs.YtmhkpafkadijgaaGreatDoor.Gw
namespace Go.Proofs.YtmhkpafkadijgaaGreatDoor.Gw
open Go.IntKind renaming wrap→I,i64→W
open Go Go.RowKit
variable[de]
def Rs.env:Rs where
 fp:=fun x=>Rs.gt.fp x∨Rs.lv.fp x
 inv:=fun w=>Rs.gt.inv w∧Rs.lv.inv w
 loc:=fun w w' h ⟨h1,h2⟩=>⟨Rs.gt.loc w w' (fun b hb=>h b (.inl hb)) h1,Rs.lv.loc w w' (fun b hb=>h b (.inr hb)) h2⟩
 bd:=fun w ⟨h1,h2⟩ x hx=>hx.elim (Rs.gt.bd w h1 x) (Rs.lv.bd w h2 x)
theorem Jb(b:Nat)(h:Rs.gt.fp b):¬Rs.lv.fp b:=by
 have h':b=3:=h
 subst h'
 rintro(h|h)<;>revert h<;>decide
theorem sV{w:World}(h1:Rs.gt.inv w)(h2:Rs.lv.inv w):Rs.env.inv w:=⟨h1,h2⟩
theorem vD{w:World}(h:Rs.env.inv w):St Rs.env.fp w w [.gt,.lv]:=by
 refine⟨.refl _ _,?_,?_,?_⟩
 ·intro r hr;simp at hr;rcases hr with rfl|rfl
  ·exact h.1
  exact h.2
 ·intro r hr x hx;simp at hr;rcases hr with rfl|rfl
  ·exact .inr (.inl hx)
  exact .inr (.inr hx)
 refine Ξ.2 ⟨fun r hr x hx hy=>?_,Dc _ _⟩
 rw[Q_.1 hr]at hy
 exact Jb x hx hy
section
variable{X:Nat→Prop}{w0 w w':World}{L M:List Rs}
theorem St.yv{r r' s:Rs}(H:St X w0 w L)(q:Nat)(hq:L[q]? =some r)(hs:∀b,s.fp b→r.fp b)(K:St s.fp w w' (s::M))(hr':r'.inv w')(hfp:∀b,r'.fp b→r.fp b):St X w0 w' (L.set q r'++M):=by
 have hr:=H.Gt q hq
 obtain⟨d1,d2⟩:=Ξ.1 K.dj
 refine H.aV q hq (r':=r') ⟨K.ch.mono fun b _ hb=>hs b hb,?_,?_,?_⟩
 ·intro u hu
  rcases X_.1 hu with rfl|hu
  ·exact hr'
  exact K.inv u (o_ _ hu)
 ·intro u hu b hb
  rcases X_.1 hu with rfl|hu
  ·exact .inr (hfp b hb)
  exact(K.fp u (o_ _ hu) b hb).imp id (hs b)
 refine Ξ.2 ⟨fun u hu b x y=>?_,d2⟩
 rcases K.fp u (o_ _ hu) b y with h|h
 ·have:=r.bd w hr b (hfp b x);omega
 exact d1 u hu b h y
theorem St.sC(H:St X w0 w L)(i j:Nat)(hi:L[i]? =some .gt)(hj:L[j]? =some .lv)(hij:i≠j)(K:St Rs.env.fp w w' (.gt:: .lv::M)):St X w0 w' (L++M):=by
 have ho:∀k (hk:k<L.length),k≠i→k≠j→∀b,L[k].fp b→¬Rs.env.fp b:=fun k hk h1 h2 b hb he=>by
  have hk':L[k]? =some L[k]:=C_ hk
  exact he.elim (H.apart k i h1 hk' hi b hb) (H.apart k j h2 hk' hj b hb)
 obtain⟨d1,d2⟩:=Ξ.1 K.dj
 obtain⟨d3,d4⟩:=Ξ.1 d2
 have hinv:∀r∈L,r.inv w':=fun r hr=>by
  obtain⟨k,hk,rfl⟩:=ES hr
  by_cases h1:k=i
  ·subst h1
   have:L[k]=Rs.gt:=by rw[C_ hk]at hi;exact FP hi
   rw[this];exact K.Gt 0 rfl
  by_cases h2:k=j
  ·subst h2
   have:L[k]=Rs.lv:=by rw[C_ hk]at hj;exact FP hj
   rw[this];exact K.Gt 1 rfl
  exact Rs.keep (H.inv _ (T_ hk)) K.ch (ho k hk h1 h2)
 have gi:=H.Gt i hi
 have gj:=H.Gt j hj
 refine⟨H.ch.trans' K.ch (fun b hb he=>?_),?_,?_,?_⟩
 ·rcases he with h|h
  ·exact(H.fp _ (ω hi) b h).resolve_left a_
  exact(H.fp _ (ω hj) b h).resolve_left a_
 ·intro r hr
  rcases dO.1 hr with h|h
  ·exact hinv r h
  exact K.inv r (o_ _ (o_ _ h))
 ·intro r hr b hb
  rcases dO.1 hr with h|h
  ·exact H.fp r h b hb
  rcases K.fp r (o_ _ (o_ _ h)) b hb with h2|h2
  ·exact .inl (Lh H.ch.size h2)
  exact(h2.elim (fun x=>d1 r (o_ _ h) b x hb) (fun x=>d3 r h b x hb)).elim
 refine LJ.2 ⟨H.dj,d4,fun r hr s hs b x y=>?_⟩
 rcases K.fp s (o_ _ (o_ _ hs)) b y with h2|h2
 ·have:=r.bd w (H.inv r hr) b x;omega
 exact h2.elim (fun z=>d1 s (o_ _ hs) b z y) (fun z=>d3 s hs b z y)
theorem St.less{r r':Rs}(H:St X w0 w L)(q:Nat)(hq:L[q]? =some r)(hr':r.inv w→r'.inv w)(hfp:∀b,r'.fp b→r.fp b):St X w0 w (L.set q r'):=
 H.put q hq (.refl _ _) (hr' (H.Gt q hq)) fun b hb=> .inl (hfp b hb)
end
structure DS where
 f1:Option FD
 f2:Option FD
 f3:Option FD
def DS.g(d:DS):Nat→Option FD
 |1=>d.f1
 |2=>d.f2
 |3=>d.f3
 |_=>none
def lx:Option FD→List Value
 |none=> [.int .u32 0,.int .i32 0,.int .u32 0,.int .i32 0,.pointer none]
 |some f=> [.int .u32 1,.int .i32 0,.int .u32 0,.int .i32 1,.pointer (some ⟨f.p,0,none⟩)]
def jg(d:DS)(cnt:List Int):List Value:=lx none++lx d.f1++lx d.f2++lx d.f3++cnt.map (Value.int .i64)
def DS.own(d:DS)(b:Nat):Prop:=∃i f,d.g i=some f∧(b=f.p∨b=f.t)
def Rs.gd(b:Nat)(d:DS)(n:List Int):Rs where
 fp:=fun x=>x=b∨x=3∨d.own x
 inv:=fun w=>Rs.gt.inv w∧¬b=3∧(n.length=16∧(Rs.blk b (jg d n).toArray 121).inv w)∧¬d.own b∧
  (∀i f,d.g i=some f→f.k=i∧(Rs.ah f).inv w)∧(∀i j f g,d.g i=some f→d.g j=some g→i≠j→∀x,(x=f.p∨x=f.t)→¬(x=g.p∨x=g.t))
 loc:=by
  rintro w w' h ⟨h1,h2,⟨h3,h4⟩,h5,h6,h7⟩
  refine⟨Rs.gt.loc w w' (fun x hx=>h x (.inr (.inl hx))) h1,h2,⟨h3,(Rs.blk b (jg d n).toArray 121).loc w w' (fun x hx=>h x (.inl hx)) h4⟩,h5,fun i f hf=>?_,h7⟩
  refine⟨(h6 i f hf).1,(Rs.ah f).loc w w' (fun x hx=>?_) (h6 i f hf).2⟩
  rcases(hx:x=f.p∨x=f.t∨x=3)with hx|hx|hx
  ·exact h x (.inr (.inr ⟨i,f,hf,.inl hx⟩))
  ·exact h x (.inr (.inr ⟨i,f,hf,.inr hx⟩))
  exact h x (.inr (.inl hx))
 bd:=by
  rintro w ⟨h1,h2,⟨h3,h4⟩,h5,h6,h7⟩ x hx
  rcases hx with hx|hx|⟨i,f,hf,hx⟩
  ·exact(Rs.blk b (jg d n).toArray 121).bd w h4 x hx
  ·exact Rs.gt.bd w h1 x hx
  exact(Rs.ah f).bd w (h6 i f hf).2 x (hx.imp id .inl)
theorem nO{g:FD}{w w':World}(h:(Rs.ah g).inv w)(hg:Rs.gt.inv w')(hk:∀b,(b=g.p∨b=g.t)→w'.heap[b]? =w.heap[b]?):(Rs.ah g).inv w':=by
 obtain⟨h1,h2,⟨a,b,c,m,e1,e2,e3⟩|⟨a,b,c⟩|⟨a,b,c⟩⟩:=h
 ·exact⟨hg,h2,.inl ⟨a,(hk _ (.inl rfl)).trans b,c,m,hg,e2,(hk _ (.inr rfl)).trans e3⟩⟩
 ·exact⟨hg,h2,.inr (.inl ⟨a,(hk _ (.inl rfl)).trans b,c⟩)⟩
 exact⟨hg,h2,.inr (.inr ⟨a,(hk _ (.inl rfl)).trans b,c⟩)⟩
theorem vI{g:FD}{w:World}(h:(Rs.ah g).inv w):∀x,(x=g.p∨x=g.t)→¬x=3:=by
 obtain⟨h1,h2,⟨a,b,c,m,e1,e2,e3⟩|⟨a,b,c⟩|⟨a,b,c⟩⟩:=h
 ·rintro x (rfl|rfl)
  ·exact h2
  exact e2
 ·rintro x (rfl|rfl)
  ·exact h2
  rw[c];exact h2
 rintro x (rfl|rfl)
 ·exact h2
 rw[c];exact h2
def DS.has(d:DS)(f:FD):Prop:=∃i,d.g i=some f
theorem my{b:Nat}{n:List Int}{d:DS}{w:World}(h:(Rs.gd b d n).inv w):Rs.gt.inv w:=h.1
theorem Am{b:Nat}{n:List Int}{d:DS}{w:World}{f:FD}(h:(Rs.gd b d n).inv w)(hf:d.has f):(Rs.ah f).inv w:=hf.elim fun i e=>(h.2.2.2.2.1 i f e).2
theorem An{b:Nat}{n:List Int}{d:DS}{f:FD}(hf:d.has f)(x:Nat)(hx:(Rs.ah f).fp x):(Rs.gd b d n).fp x:=by
 obtain⟨i,hf⟩:=hf
 rcases(hx:x=f.p∨x=f.t∨x=3)with hx|hx|hx
 ·exact .inr (.inr ⟨i,f,hf,.inl hx⟩)
 ·exact .inr (.inr ⟨i,f,hf,.inr hx⟩)
 exact .inr (.inl hx)
theorem IX{b:Nat}{n:List Int}{d:DS}{f:FD}{w:World}(h:(Rs.gd b d n).inv w)(hf:d.has f):¬(Rs.ah f).fp b:=by
 obtain⟨i,hf⟩:=hf
 intro hx
 rcases(hx:b=f.p∨b=f.t∨b=3)with hx|hx|hx
 ·exact h.2.2.2.1 ⟨i,f,hf,.inl hx⟩
 ·exact h.2.2.2.1 ⟨i,f,hf,.inr hx⟩
 exact h.2.1 hx
theorem IY{b:Nat}{n:List Int}{d:DS}{f:FD}{w w':World}(h:(Rs.gd b d n).inv w)(hf:d.has f)(hc:Ch (Rs.ah f).fp w w')(hi:(Rs.ah f).inv w'):(Rs.gd b d n).inv w':=by
 have hb:=IX h hf
 have hbd:=(Rs.gd b d n).bd w h
 obtain⟨h1,h2,⟨h3,h4⟩,h5,h6,h7⟩:=id h
 obtain⟨j,hf⟩:=hf
 refine⟨hi.1,h2,⟨h3,(hc.block b (hbd b (.inl rfl)) hb).trans h4⟩,h5,fun i g hg=>⟨(h6 i g hg).1,?_⟩,h7⟩
 by_cases e:i=j
 ·subst e
  rw[hg]at hf;injection hf with e;subst e;exact hi
 have hgi:=(h6 i g hg).2
 refine nO hgi hi.1 fun x hx=>hc.block x (hbd x (.inr (.inr ⟨i,g,hg,hx⟩))) ?_
 rintro(y|y|y)
 ·exact h7 i j g f hg hf e x hx (.inl y)
 ·exact h7 i j g f hg hf e x hx (.inr y)
 exact vI hgi x hx y
theorem IW{b:Nat}{n:List Int}{d:DS}{w w':World}(h:(Rs.gd b d n).inv w)(hc:Ch Rs.gt.fp w w')(hi:Rs.gt.inv w'):(Rs.gd b d n).inv w':=by
 have hbd:=(Rs.gd b d n).bd w h
 obtain⟨h1,h2,⟨h3,h4⟩,h5,h6,h7⟩:=id h
 refine⟨hi,h2,⟨h3,(hc.block b (hbd b (.inl rfl)) h2).trans h4⟩,h5,fun i g hg=>⟨(h6 i g hg).1,?_⟩,h7⟩
 exact nO (h6 i g hg).2 hi fun x hx=>hc.block x (hbd x (.inr (.inr ⟨i,g,hg,hx⟩))) (vI (h6 i g hg).2 x hx)
theorem sI:∀i,(⟨none,none,none⟩:DS).g i=none:=by
 intro i
 match i with
 |0=>rfl
 |1=>rfl
 |2=>rfl
 |3=>rfl
 |_+4=>rfl
section
variable{P:Program}{ρ:Option Nat}{N:Nat}{t:Fr}{w w' w0:World}{X:Nat→Prop}{L M:List Rs}{R:Value→World→Prop}{dd:Option Nat}{ty T:TypeId}{ps:String}{af:Array Edge}{g:Option (Nat×Bool)}{x y:Operand}{b:Nat}{d:DS}{n:List Int}
theorem St.yu{f:FD}(H:St X w0 w L)(q:Nat)(hq:L[q]? =some (.gd b d n))(hf:d.has f)(K:St (Rs.ah f).fp w w' (.ah f::M)):St X w0 w' (L.set q (.gd b d n)++M):=
 H.yv q hq (An hf) K (IY (H.Gt q hq) hf K.ch (K.Gt 0 rfl)) fun _ h=>h
theorem St.oU(H:St X w0 w L)(q:Nat)(hq:L[q]? =some (.gd b d n))(K:St Rs.gt.fp w w' (.gt::M)):St X w0 w' (L.set q (.gd b d n)++M):=
 H.yv q hq (fun x hx=> .inr (.inl hx)) K (IW (H.Gt q hq) K.ch (K.Gt 0 rfl)) fun _ h=>h
theorem wU{f:FD}{α:Type}{κ:Kd α}{v:Value}{l:List α}(hf:d.has f)(h:Rd κ w (Ol (Rs.gd b d n).fp w) v l):Rd κ w (Ol (Rs.ah f).fp w) v l:=h.mono fun x hx=>⟨hx.1,fun y=>hx.2 (An hf x y)⟩
theorem qd{α:Type}{κ:Kd α}{v:Value}{l:List α}(h:Rd κ w (Ol (Rs.gd b d n).fp w) v l):Rd κ w (Ol Rs.gt.fp w) v l:=h.mono fun x hx=>⟨hx.1,fun y=>hx.2 (.inr (.inl y))⟩
theorem uk{fs:Array Field}{v:Value}(hT:P.underlying T=some (.struct fs))(hx:ev t x=v):Rv P ⟨dd,.makeInterface T x,ty,ps,af,g⟩ t w (.iface T v):=by
 unfold Rv
 simp[execOp,hx,Instr.makeInterface,run_underlying hT,Sem.run_bind]
theorem QT{cs:List Value}(H:St X w0 w L)(q:Nat)(hq:L[q]? =some .gt)(hx:ev t x= .agg cs.toArray)(hc:cs=jg ⟨none,none,none⟩ (List.replicate 16 0))(h:∀b w',St X w0 w' (L.set q (.gd b ⟨none,none,none⟩ (List.replicate 16 0)))→R (.pointer (some ⟨b,0,none⟩)) w'):Yd P ρ N ⟨dd,.box 121 x,ty,ps,af,g⟩ t w R:=by
 have hg:=H.Gt q hq
 have hlt:=Rs.gt.bd w hg 3 rfl
 refine xV (cs:=cs.toArray) (by rw[hx];rfl) (h _ _ (H.put q hq (.alloc _ _ _) ⟨Rs.keep hg (.alloc no _ _) (fun _ _ h=>h),a_,⟨j_,?_⟩,?_,?_,?_⟩ ?_))
 ·subst hc
  show(w.heap.push _)[w.heap.size]? =_
  simp
 ·rintro⟨i,f,e,_⟩;rw[sI]at e;cases e
 ·intro i f e;rw[sI]at e;cases e
 ·intro i j f g e;rw[sI]at e;cases e
 rintro x (e|e|⟨i,f,e,_⟩)
 ·exact .inr (NF e.symm)
 ·exact .inl e
 rw[sI]at e;cases e
end
section
variable{X:Nat→Prop}{w0 w w':World}{L M:List Rs}{b c:Nat}{d:DS}{n:List Int}
end
section
variable{w w0:World}{L:List Rs}{α:Type}{κ:Kd α}{v:Value}{l:List α}
theorem IB(H:St Rs.env.fp w0 w L)(hi:L[0]? =some .gt)(hj:L[1]? =some .lv)(hf:Rs.env.inv w0)(h:Rd κ w0 (Ol no w0) v l):Rd κ w (Ol no w0) v l:=
 h.keep fun b hb=>by
  by_cases hE:Rs.env.fp b
  ·rcases hE with e|e|e
   ·have e':b=3:=e
    rw[e'];exact(H.Gt 0 hi).2.trans hf.1.2.symm
   ·rw[e];exact(H.Gt 1 hj).2.1.trans hf.2.2.1.symm
   rw[e];exact(H.Gt 1 hj).2.2.trans hf.2.2.2.symm
  exact H.ch.block b hb.1 hE
theorem Iz{X:Nat→Prop}(H:St X w0 w L)(h:Rd κ w (Ol no w0) v l):Rd κ w (Ol no w) v l:=
 h.mono fun _ hb=>⟨ED hb.1 H.ch.size,fun x=>x⟩
theorem IA(H:St Rs.env.fp w0 w [.gt,.lv])(hf:Rs.env.inv w0):Ch no w0 w:=
 ⟨H.ch.os,H.ch.tape,H.ch.output,H.ch.size,fun b hb _=>by
  by_cases hE:Rs.env.fp b
  ·rcases hE with e|e|e
   ·have e':b=3:=e
    rw[e'];exact(H.Gt 0 rfl).2.trans hf.1.2.symm
   ·rw[e];exact(H.Gt 1 rfl).2.1.trans hf.2.2.1.symm
   rw[e];exact(H.Gt 1 rfl).2.2.trans hf.2.2.2.symm
  exact H.ch.block b hb hE⟩
end
variable[de]
theorem Ft:Bd Tryz.prog 278 kY.toArray [(0,3),(3,1),(4,766)]:=⟨_,.agg kY.toArray,Tryz.underlying278,d_,rfl,fun w=>d_⟩
theorem xU{ρ:Option Nat}{N:Nat}{t:Fr}{w w0:World}{X:Nat→Prop}{L:List Rs}{R:Value→World→Prop}{d:Option Nat}{ty T1:TypeId}{ps:String}{af:Array Edge}{g:Option (Nat×Bool)}{b o:Nat}{cs:Array Value}{xs:Array Operand}{ats:Array TypeId}(H:St X w0 w L)(q:Nat)(hq:L[q]? =some (.blk b cs T1))(hc:cs[o]? =some (.int .i32 0))(hf:En Tryz.prog 164)(hv:xs.toList.map (ev t)=[.pointer (some ⟨b,o,none⟩),.int .i32 1]){cs':Array Value}(hs:cs.setIfInBounds o (.int .i32 1)=cs')(h:∀w',St X w0 w' (L.set q (.blk b cs' T1))→R (.int .i32 1) w'):Yd Tryz.prog ρ N ⟨d,.call ⟨.value (.func 164),xs,ats⟩,ty,ps,af,g⟩ t w R:=by
 have hb:=H.Gt q hq
 refine au hf hv ((BU ⟨b,o,none⟩ w (ak hb hc) (dR hb)).mono ?_)
 rintro _ w' ⟨rfl,rfl⟩
 refine⟨_,rfl,h _ (H.put q hq (.set _ _ _ rfl) ?_ (fun _ e=> .inl e))⟩
 have:=ll (o:=o) (.int .i32 1) hb
 rw[hs]at this;exact this
theorem xX{ρ:Option Nat}{N:Nat}{t:Fr}{w w0:World}{X:Nat→Prop}{L:List Rs}{R:Value→World→Prop}{d:Option Nat}{ty T1:TypeId}{ps:String}{af:Array Edge}{g:Option (Nat×Bool)}{b o:Nat}{cs:Array Value}{xs:Array Operand}{ats:Array TypeId}{fv:Value}(H:St X w0 w L)(q:Nat)(hq:L[q]? =some (.blk b cs T1))(hc:cs[o]? =some (.int .u32 1))(hf:En Tryz.prog 162)(hv:xs.toList.map (ev t)=[.pointer (some ⟨b,o,none⟩),fv])(h:∀w',St X w0 w' L→R (.tuple #[]) w'):Yd Tryz.prog ρ N ⟨d,.call ⟨.value (.func 162),xs,ats⟩,ty,ps,af,g⟩ t w R:=by
 have hb:=H.Gt q hq
 refine au hf hv ((BW ⟨b,o,none⟩ 1 f_ fv w (ak hb hc)).mono ?_)
 rintro _ w' ⟨rfl,rfl⟩
 exact⟨_,rfl,h _ H⟩
theorem wQ:Tryz.prog.follows .mixedOrders=true:=d_
theorem fP:Sc Tryz.prog 252:=⟨_,Tryz.underlying252,rfl⟩
theorem wR:Sc Tryz.prog 3:=⟨_,Tryz.underlying3,rfl⟩
theorem wO:En Tryz.prog 77:=⟨_,_,Tryz.func77,d_,rfl⟩
theorem MI:En Tryz.prog 113:=⟨_,_,Tryz.func113,d_,rfl⟩
theorem MF:Bd Tryz.prog 182 #[.pointer none] [(0,1)]:=⟨_,.agg #[.pointer none],Tryz.underlying182,d_,rfl,fun w=>d_⟩
theorem wL:Bd Tryz.prog 186 #[.nilIface,.int .i64 0] [(0,1),(1,1)]:=⟨_,.agg #[.nilIface,.int .i64 0],Tryz.underlying186,d_,rfl,fun w=>d_⟩
theorem lL:Fa Tryz.prog 113 2 4:=⟨_,_,Tryz.underlying113,rfl,rfl,0,d_⟩
theorem wS:Sz Tryz.prog 111 1:=K_
theorem wP:Fa Tryz.prog 113 1 3:=⟨_,_,Tryz.underlying113,rfl,rfl,0,d_⟩
theorem wN:En Tryz.prog 164:=⟨_,_,Tryz.func164,d_,rfl⟩
theorem qb:Fa Tryz.prog 113 0 0:=⟨_,_,Tryz.underlying113,rfl,rfl,2,d_⟩
theorem pZ:En Tryz.prog 162:=⟨_,_,Tryz.func162,d_,rfl⟩
theorem qc:Sc Tryz.prog 111:=⟨_,Tryz.underlying111,rfl⟩
theorem MG:Bd Tryz.prog 187 #[] []:=⟨_,.agg #[],Tryz.underlying187,d_,rfl,fun w=>d_⟩
theorem MH:Bd Tryz.prog 188 #[] []:=⟨_,.agg #[],Tryz.underlying188,d_,rfl,fun w=>d_⟩
theorem MJ{w0 w:World}{X:Nat→Prop}{b_ Zm fb_:Nat}{c0_ c1_ c2_ c3_ c4_ c10_ c11_ c12_ c13_ c14_ c15_ c16_ c17_ c18_ c19_ c20_ c21_ c22_ c23_ c24_ c25_ c26_ c27_ c28_ c29_ c30_ c31_ c32_ c33_ c34_ c35_:Value}(H:St X w0 w [.blk b_ #[c0_,c1_,c2_,c3_,c4_,.int .u32 0,.int .i32 1,.int .u32 0,.int .i32 0,.pointer none,c10_,c11_,c12_,c13_,c14_,c15_,c16_,c17_,c18_,c19_,c20_,c21_,c22_,c23_,c24_,c25_,c26_,c27_,c28_,c29_,c30_,c31_,c32_,c33_,c34_,c35_] 121,.blk fb_ #[.pointer (some ⟨b_,5,none⟩)] 252,.blk Zm #[.int .i64 1] 3]):
 Calls Tryz.prog 163 #[.pointer (some ⟨Zm,0,none⟩),.pointer (some ⟨fb_,0,none⟩)] w fun e w'=>e= .returned (.tuple #[])∧∃b5,∃b6,St X w0 w' [.blk b_ #[c0_,c1_,c2_,c3_,c4_,.int .u32 0,.int .i32 1,.int .u32 0,.int .i32 1,.pointer (some ⟨b6,0,none⟩),c10_,c11_,c12_,c13_,c14_,c15_,c16_,c17_,c18_,c19_,c20_,c21_,c22_,c23_,c24_,c25_,c26_,c27_,c28_,c29_,c30_,c31_,c32_,c33_,c34_,c35_] 121,.blk fb_ #[.pointer (some ⟨b_,5,none⟩)] 252,.blk Zm #[.int .i64 1] 3,.blk b5 kY.toArray 278,.blk b6 #[.iface 182 (.agg #[.pointer (some ⟨b5,0,none⟩)]),.int .i64 1] 186]:=by
 refine aP (N:=11) (args:=[.pointer (some ⟨Zm,0,none⟩),.pointer (some ⟨fb_,0,none⟩)]) Tryz.func163 rfl rfl j_ ?_
 refine ae (cd (ds:=[5]) wQ H rfl rfl ?_)
 have H:=H.drew
 refine kI (i:=0) (l':=#[true,false,false,false,false,false]) rfl rfl rfl d_ H (fun w H=>av fP rfl (ak (H.Gt 1 rfl) rfl)) (kI (i:=1) (l':=#[true,true,false,false,false,false]) rfl rfl rfl d_ H (fun w H=>av wR rfl (ak (H.Gt 2 rfl) rfl)) (nj (i:=2) (l':=#[true,true,true,false,false,false]) rfl rfl rfl d_ (cm 26 [.int .i64 1] wO Tryz.func77 rfl rfl rfl rfl (rg (v_ rfl (sg (.pointer none) rfl) (nl (ae (rg (v_ rfl (mv (.int .i64 1) rfl) (nl (aG (rg (v_ rfl (bJ (v':= .bool true) (cg rfl rfl) rfl) (v_ rfl (sg (.bool true) rfl) (nl (cl rfl (rg (e_ rfl (cm 3 [] MI Tryz.func113 rfl rfl rfl rfl (rg (v_ rfl (sg (.pointer none) rfl) (nl (rg (v_ rfl (cf (cs:=kY) Ft rfl) (e_ rfl (bc (cs:=kY.toArray) H rfl (fun b5 w H=>v_ rfl (sg (.pointer (some ⟨b5,0,none⟩)) rfl) (nl (aj (⟨.inl rfl,.pointer (some ⟨b5,0,none⟩),tk0 rfl ⟨ba rfl (ad ai) rfl,v_ rfl (cf (cs:=[.pointer (some ⟨b5,0,none⟩)]) MF rfl) (v_ rfl (uk Tryz.underlying182 rfl) (v_ rfl (mv (.int .i64 1) rfl) (v_ rfl (cf (cs:=[.iface 182 (.agg #[.pointer (some ⟨b5,0,none⟩)]),.int .i64 1]) wL rfl) (e_ rfl (bc (cs:=#[.iface 182 (.agg #[.pointer (some ⟨b5,0,none⟩)]),.int .i64 1]) H rfl (fun b6 w H=>v_ rfl (sg (.pointer (some ⟨b6,0,none⟩)) rfl) (nl (aj (bG (aL ⟨.inl rfl,.pointer (some ⟨b6,0,none⟩),tk0 rfl ⟨ba rfl (ad ai) rfl,(⟨fun _=>H.ag [0,1,2] rfl rfl,sd (i:=3) (l':=#[true,true,true,true,false,false]) rfl rfl rfl d_ (H.ag [0,1,2] rfl rfl) (bw rfl) (kI (i:=4) (l':=#[true,true,true,true,true,false]) rfl rfl rfl d_ (H.ag [0,1,2] rfl rfl) (fun w H=>az lL rfl) (nj (i:=5) (l':=#[true,true,true,true,true,true]) rfl rfl rfl d_ (cQ wS H 0 rfl rfl rfl rfl rfl (fun w H=>⟨fun h=>(h f_).elim,?_⟩))))⟩)⟩⟩))))))))))⟩⟩))))))))))))))))))))))))))))))
 refine uF d_ (ab (aH (v_ rfl (av fP rfl (ak (H.Gt 1 rfl) rfl)) (v_ rfl (bw rfl) (v_ rfl (az wP rfl) (e_ rfl (xU H 0 rfl rfl wN rfl rfl (fun w H=>(aK ?_)))))))))
 exact⟨.inr rfl,_,tk0 rfl ⟨aB rfl ai,rfl,_,_,H⟩⟩
theorem Q3{ρ:Option Nat}{N:Nat}{t:Fr}{w0 w:World}{X:Nat→Prop}{R:Value→World→Prop}{d:Option Nat}{ty:TypeId}{ps:String}{af:Array Edge}{g:Option (Nat×Bool)}{xs:Array Operand}{ats:Array TypeId}{b_ Zm fb_:Nat}{c0_ c1_ c2_ c3_ c4_ c10_ c11_ c12_ c13_ c14_ c15_ c16_ c17_ c18_ c19_ c20_ c21_ c22_ c23_ c24_ c25_ c26_ c27_ c28_ c29_ c30_ c31_ c32_ c33_ c34_ c35_:Value}(H:St X w0 w [.blk b_ #[c0_,c1_,c2_,c3_,c4_,.int .u32 0,.int .i32 0,.int .u32 0,.int .i32 0,.pointer none,c10_,c11_,c12_,c13_,c14_,c15_,c16_,c17_,c18_,c19_,c20_,c21_,c22_,c23_,c24_,c25_,c26_,c27_,c28_,c29_,c30_,c31_,c32_,c33_,c34_,c35_] 121,.blk fb_ #[.pointer (some ⟨b_,5,none⟩)] 252,.blk Zm #[.int .i64 1] 3])(hf:En Tryz.prog 162)(hv:xs.toList.map (ev t)=[.pointer (some ⟨b_,5,none⟩),.func (.func 163) #[] #[.pointer (some ⟨Zm,0,none⟩),.pointer (some ⟨fb_,0,none⟩)]])(h:∀b5 b6 w',St X w0 w' [.blk b_ #[c0_,c1_,c2_,c3_,c4_,.int .u32 1,.int .i32 0,.int .u32 0,.int .i32 1,.pointer (some ⟨b6,0,none⟩),c10_,c11_,c12_,c13_,c14_,c15_,c16_,c17_,c18_,c19_,c20_,c21_,c22_,c23_,c24_,c25_,c26_,c27_,c28_,c29_,c30_,c31_,c32_,c33_,c34_,c35_] 121,.blk fb_ #[.pointer (some ⟨b_,5,none⟩)] 252,.blk Zm #[.int .i64 1] 3,.blk b5 kY.toArray 278,.blk b6 #[.iface 182 (.agg #[.pointer (some ⟨b5,0,none⟩)]),.int .i64 1] 186]→R (.tuple #[]) w'):Yd Tryz.prog ρ N ⟨d,.call ⟨.value (.func 162),xs,ats⟩,ty,ps,af,g⟩ t w R:=by
 have hb:=H.Gt 0 rfl
 have H1:St X w0 (w.setCell ⟨b_,6,none⟩ (.int .i32 1)) [.blk b_ #[c0_,c1_,c2_,c3_,c4_,.int .u32 0,.int .i32 1,.int .u32 0,.int .i32 0,.pointer none,c10_,c11_,c12_,c13_,c14_,c15_,c16_,c17_,c18_,c19_,c20_,c21_,c22_,c23_,c24_,c25_,c26_,c27_,c28_,c29_,c30_,c31_,c32_,c33_,c34_,c35_] 121,.blk fb_ #[.pointer (some ⟨b_,5,none⟩)] 252,.blk Zm #[.int .i64 1] 3]:=H.store 0 rfl 6 (.int .i32 1)
 refine au hf hv ((wV b_ 5 (.pointer (some ⟨Zm,0,none⟩)) (.pointer (some ⟨fb_,0,none⟩)) w (fun w'=>∃b5,∃b6,St X w0 w' [.blk b_ #[c0_,c1_,c2_,c3_,c4_,.int .u32 0,.int .i32 1,.int .u32 0,.int .i32 1,.pointer (some ⟨b6,0,none⟩),c10_,c11_,c12_,c13_,c14_,c15_,c16_,c17_,c18_,c19_,c20_,c21_,c22_,c23_,c24_,c25_,c26_,c27_,c28_,c29_,c30_,c31_,c32_,c33_,c34_,c35_] 121,.blk fb_ #[.pointer (some ⟨b_,5,none⟩)] 252,.blk Zm #[.int .i64 1] 3,.blk b5 kY.toArray 278,.blk b6 #[.iface 182 (.agg #[.pointer (some ⟨b5,0,none⟩)]),.int .i64 1] 186]) (ak hb rfl) (ak hb rfl) (dR hb) (dR hb) (MJ H1) ?_).mono ?_)
 ·rintro w' ⟨b5,b6,K⟩
  have hk:=K.Gt 0 rfl
  exact⟨ak hk rfl,ak hk rfl,dR hk,dR hk⟩
 rintro _ w' ⟨rfl,w1,⟨b5,b6,K⟩,rfl⟩
 have K1:=K.drew
 have K2:=K1.store 0 rfl 5 (.int .u32 1)
 exact⟨_,rfl,h b5 b6 _ (K2.store 0 rfl 6 (.int .i32 0))⟩
theorem tR{w0:World}{b_:Nat}{c0_ c1_ c2_ c3_ c4_ c10_ c11_ c12_ c13_ c14_ c15_ c16_ c17_ c18_ c19_ c20_ c21_ c22_ c23_ c24_ c25_ c26_ c27_ c28_ c29_ c30_ c31_ c32_ c33_ c34_ c35_:Value}(h:(Rs.blk b_ #[c0_,c1_,c2_,c3_,c4_,.int .u32 0,.int .i32 0,.int .u32 0,.int .i32 0,.pointer none,c10_,c11_,c12_,c13_,c14_,c15_,c16_,c17_,c18_,c19_,c20_,c21_,c22_,c23_,c24_,c25_,c26_,c27_,c28_,c29_,c30_,c31_,c32_,c33_,c34_,c35_] 121).inv w0):
 Calls Tryz.prog 104 #[.pointer (some ⟨b_,5,none⟩),.int .i64 1] w0 fun e w'=>∃b3,∃b4,e= .returned (.pointer (some ⟨b4,0,none⟩))∧St (Rs.blk b_ #[] 121).fp w0 w' [.blk b_ #[c0_,c1_,c2_,c3_,c4_,.int .u32 1,.int .i32 0,.int .u32 0,.int .i32 1,.pointer (some ⟨b4,0,none⟩),c10_,c11_,c12_,c13_,c14_,c15_,c16_,c17_,c18_,c19_,c20_,c21_,c22_,c23_,c24_,c25_,c26_,c27_,c28_,c29_,c30_,c31_,c32_,c33_,c34_,c35_] 121,.blk b3 kY.toArray 278,.blk b4 #[.iface 182 (.agg #[.pointer (some ⟨b3,0,none⟩)]),.int .i64 1] 186]:=by
 have H:St (Rs.blk b_ #[] 121).fp w0 w0 [.blk b_ #[c0_,c1_,c2_,c3_,c4_,.int .u32 0,.int .i32 0,.int .u32 0,.int .i32 0,.pointer none,c10_,c11_,c12_,c13_,c14_,c15_,c16_,c17_,c18_,c19_,c20_,c21_,c22_,c23_,c24_,c25_,c26_,c27_,c28_,c29_,c30_,c31_,c32_,c33_,c34_,c35_] 121]:=St.start h
 refine aP (N:=14) (args:=[.pointer (some ⟨b_,5,none⟩),.int .i64 1]) Tryz.func104 rfl rfl j_ ?_
 refine rg (e_ rfl (bc (cs:=#[.pointer (some ⟨b_,5,none⟩)]) H rfl (fun b1 w H=>e_ rfl (bc (cs:=#[.int .i64 1]) H rfl (fun b2 w H=>v_ rfl (sg (.pointer none) rfl) (nl (rg (v_ rfl (av fP rfl (ak (H.Gt 1 rfl) rfl)) (v_ rfl (bw rfl) (v_ rfl (az qb rfl) (v_ rfl (dt [.pointer (some ⟨b2,0,none⟩),.pointer (some ⟨b1,0,none⟩)] rfl) (e_ rfl (Q3 H pZ rfl (fun b3 b4 w H=>nl (rg (v_ rfl (av fP rfl (ak (H.Gt 1 rfl) rfl)) (v_ rfl (bw rfl) (v_ rfl (az lL rfl) (v_ rfl (av qc rfl (ak (H.Gt 0 rfl) rfl)) (v_ rfl (sg (.pointer (some ⟨b4,0,none⟩)) rfl) (nl (aj ?_))))))))))))))))))))))
 exact⟨.inl rfl,_,tk0 rfl ⟨aB rfl (ad ai),_,_,rfl,H.ag [0,3,4] rfl rfl⟩⟩
theorem tS{w0:World}{b_ p_:Nat}{c0_ c1_ c2_ c3_ c4_ c10_ c11_ c12_ c13_ c14_ c15_ c16_ c17_ c18_ c19_ c20_ c21_ c22_ c23_ c24_ c25_ c26_ c27_ c28_ c29_ c30_ c31_ c32_ c33_ c34_ c35_:Value}(h:(Rs.blk b_ #[c0_,c1_,c2_,c3_,c4_,.int .u32 1,.int .i32 0,.int .u32 0,.int .i32 1,(.pointer (some ⟨p_,0,none⟩)),c10_,c11_,c12_,c13_,c14_,c15_,c16_,c17_,c18_,c19_,c20_,c21_,c22_,c23_,c24_,c25_,c26_,c27_,c28_,c29_,c30_,c31_,c32_,c33_,c34_,c35_] 121).inv w0):
 Calls Tryz.prog 104 #[.pointer (some ⟨b_,5,none⟩),.int .i64 1] w0 fun e w'=>e= .returned (.pointer (some ⟨p_,0,none⟩))∧St (Rs.blk b_ #[] 121).fp w0 w' [.blk b_ #[c0_,c1_,c2_,c3_,c4_,.int .u32 1,.int .i32 0,.int .u32 0,.int .i32 1,(.pointer (some ⟨p_,0,none⟩)),c10_,c11_,c12_,c13_,c14_,c15_,c16_,c17_,c18_,c19_,c20_,c21_,c22_,c23_,c24_,c25_,c26_,c27_,c28_,c29_,c30_,c31_,c32_,c33_,c34_,c35_] 121]:=by
 have H:St (Rs.blk b_ #[] 121).fp w0 w0 [.blk b_ #[c0_,c1_,c2_,c3_,c4_,.int .u32 1,.int .i32 0,.int .u32 0,.int .i32 1,(.pointer (some ⟨p_,0,none⟩)),c10_,c11_,c12_,c13_,c14_,c15_,c16_,c17_,c18_,c19_,c20_,c21_,c22_,c23_,c24_,c25_,c26_,c27_,c28_,c29_,c30_,c31_,c32_,c33_,c34_,c35_] 121]:=St.start h
 refine aP (N:=14) (args:=[.pointer (some ⟨b_,5,none⟩),.int .i64 1]) Tryz.func104 rfl rfl j_ ?_
 refine rg (e_ rfl (bc (cs:=#[.pointer (some ⟨b_,5,none⟩)]) H rfl (fun b1 w H=>e_ rfl (bc (cs:=#[.int .i64 1]) H rfl (fun b2 w H=>v_ rfl (sg (.pointer none) rfl) (nl (rg (v_ rfl (av fP rfl (ak (H.Gt 1 rfl) rfl)) (v_ rfl (bw rfl) (v_ rfl (az qb rfl) (v_ rfl (dt [.pointer (some ⟨b2,0,none⟩),.pointer (some ⟨b1,0,none⟩)] rfl) (e_ rfl (xX (o:=5) H 0 rfl rfl pZ rfl (fun w H=>nl (rg (v_ rfl (av fP rfl (ak (H.Gt 1 rfl) rfl)) (v_ rfl (bw rfl) (v_ rfl (az lL rfl) (v_ rfl (av qc rfl (ak (H.Gt 0 rfl) rfl)) (v_ rfl (sg (.pointer (some ⟨p_,0,none⟩)) rfl) (nl (aj ?_))))))))))))))))))))))
 exact⟨.inl rfl,_,tk0 rfl ⟨aB rfl (ad ai),rfl,H.ag [0] rfl rfl⟩⟩
theorem MK{w0 w:World}{X:Nat→Prop}{b_ Zm fb_:Nat}{c0_ c1_ c2_ c3_ c4_ c5_ c6_ c7_ c8_ c9_ c15_ c16_ c17_ c18_ c19_ c20_ c21_ c22_ c23_ c24_ c25_ c26_ c27_ c28_ c29_ c30_ c31_ c32_ c33_ c34_ c35_:Value}(H:St X w0 w [.blk b_ #[c0_,c1_,c2_,c3_,c4_,c5_,c6_,c7_,c8_,c9_,.int .u32 0,.int .i32 1,.int .u32 0,.int .i32 0,.pointer none,c15_,c16_,c17_,c18_,c19_,c20_,c21_,c22_,c23_,c24_,c25_,c26_,c27_,c28_,c29_,c30_,c31_,c32_,c33_,c34_,c35_] 121,.blk fb_ #[.pointer (some ⟨b_,10,none⟩)] 252,.blk Zm #[.int .i64 2] 3]):
 Calls Tryz.prog 163 #[.pointer (some ⟨Zm,0,none⟩),.pointer (some ⟨fb_,0,none⟩)] w fun e w'=>e= .returned (.tuple #[])∧∃b2,St X w0 w' [.blk b_ #[c0_,c1_,c2_,c3_,c4_,c5_,c6_,c7_,c8_,c9_,.int .u32 0,.int .i32 1,.int .u32 0,.int .i32 1,.pointer (some ⟨b2,0,none⟩),c15_,c16_,c17_,c18_,c19_,c20_,c21_,c22_,c23_,c24_,c25_,c26_,c27_,c28_,c29_,c30_,c31_,c32_,c33_,c34_,c35_] 121,.blk fb_ #[.pointer (some ⟨b_,10,none⟩)] 252,.blk Zm #[.int .i64 2] 3,.blk b2 #[.iface 187 (.agg #[]),.int .i64 2] 186]:=by
 refine aP (N:=11) (args:=[.pointer (some ⟨Zm,0,none⟩),.pointer (some ⟨fb_,0,none⟩)]) Tryz.func163 rfl rfl j_ ?_
 refine ae (cd (ds:=[5]) wQ H rfl rfl ?_)
 have H:=H.drew
 refine kI (i:=0) (l':=#[true,false,false,false,false,false]) rfl rfl rfl d_ H (fun w H=>av fP rfl (ak (H.Gt 1 rfl) rfl)) (kI (i:=1) (l':=#[true,true,false,false,false,false]) rfl rfl rfl d_ H (fun w H=>av wR rfl (ak (H.Gt 2 rfl) rfl)) (nj (i:=2) (l':=#[true,true,true,false,false,false]) rfl rfl rfl d_ (cm 26 [.int .i64 2] wO Tryz.func77 rfl rfl rfl rfl (rg (v_ rfl (sg (.pointer none) rfl) (nl (ae (rg (v_ rfl (mv (.int .i64 2) rfl) (nl (aG (rg (v_ rfl (bJ (v':= .bool false) (cg rfl rfl) rfl) (v_ rfl (sg (.bool false) rfl) (nl (bS rfl (rg (v_ rfl (bJ (v':= .bool true) (cg rfl rfl) rfl) (v_ rfl (sg (.bool true) rfl) (nl (cl rfl (rg (v_ rfl (cf (cs:=[]) MG rfl) (v_ rfl (uk Tryz.underlying187 rfl) (v_ rfl (mv (.int .i64 2) rfl) (v_ rfl (cf (cs:=[.iface 187 (.agg #[]),.int .i64 2]) wL rfl) (e_ rfl (bc (cs:=#[.iface 187 (.agg #[]),.int .i64 2]) H rfl (fun b2 w H=>v_ rfl (sg (.pointer (some ⟨b2,0,none⟩)) rfl) (nl (aj (bG (aL ⟨.inl rfl,.pointer (some ⟨b2,0,none⟩),tk0 rfl ⟨ba rfl (ad ai) rfl,(⟨fun _=>H.ag [0,1,2] rfl rfl,sd (i:=3) (l':=#[true,true,true,true,false,false]) rfl rfl rfl d_ (H.ag [0,1,2] rfl rfl) (bw rfl) (kI (i:=4) (l':=#[true,true,true,true,true,false]) rfl rfl rfl d_ (H.ag [0,1,2] rfl rfl) (fun w H=>az lL rfl) (nj (i:=5) (l':=#[true,true,true,true,true,true]) rfl rfl rfl d_ (cQ wS H 0 rfl rfl rfl rfl rfl (fun w H=>⟨fun h=>(h f_).elim,uF d_ (ab (aH (v_ rfl (av fP rfl (ak (H.Gt 1 rfl) rfl)) (v_ rfl (bw rfl) (v_ rfl (az wP rfl) ?_)))))⟩))))⟩)⟩⟩)))))))))))))))))))))))))))))))))
 refine e_ rfl (xU H 0 rfl rfl wN rfl rfl (fun w H=>(aK ?_)))
 exact⟨.inr rfl,_,tk0 rfl ⟨aB rfl ai,rfl,_,H⟩⟩
theorem Q4{ρ:Option Nat}{N:Nat}{t:Fr}{w0 w:World}{X:Nat→Prop}{R:Value→World→Prop}{d:Option Nat}{ty:TypeId}{ps:String}{af:Array Edge}{g:Option (Nat×Bool)}{xs:Array Operand}{ats:Array TypeId}{b_ Zm fb_:Nat}{c0_ c1_ c2_ c3_ c4_ c5_ c6_ c7_ c8_ c9_ c15_ c16_ c17_ c18_ c19_ c20_ c21_ c22_ c23_ c24_ c25_ c26_ c27_ c28_ c29_ c30_ c31_ c32_ c33_ c34_ c35_:Value}(H:St X w0 w [.blk b_ #[c0_,c1_,c2_,c3_,c4_,c5_,c6_,c7_,c8_,c9_,.int .u32 0,.int .i32 0,.int .u32 0,.int .i32 0,.pointer none,c15_,c16_,c17_,c18_,c19_,c20_,c21_,c22_,c23_,c24_,c25_,c26_,c27_,c28_,c29_,c30_,c31_,c32_,c33_,c34_,c35_] 121,.blk fb_ #[.pointer (some ⟨b_,10,none⟩)] 252,.blk Zm #[.int .i64 2] 3])(hf:En Tryz.prog 162)(hv:xs.toList.map (ev t)=[.pointer (some ⟨b_,10,none⟩),.func (.func 163) #[] #[.pointer (some ⟨Zm,0,none⟩),.pointer (some ⟨fb_,0,none⟩)]])(h:∀b2 w',St X w0 w' [.blk b_ #[c0_,c1_,c2_,c3_,c4_,c5_,c6_,c7_,c8_,c9_,.int .u32 1,.int .i32 0,.int .u32 0,.int .i32 1,.pointer (some ⟨b2,0,none⟩),c15_,c16_,c17_,c18_,c19_,c20_,c21_,c22_,c23_,c24_,c25_,c26_,c27_,c28_,c29_,c30_,c31_,c32_,c33_,c34_,c35_] 121,.blk fb_ #[.pointer (some ⟨b_,10,none⟩)] 252,.blk Zm #[.int .i64 2] 3,.blk b2 #[.iface 187 (.agg #[]),.int .i64 2] 186]→R (.tuple #[]) w'):Yd Tryz.prog ρ N ⟨d,.call ⟨.value (.func 162),xs,ats⟩,ty,ps,af,g⟩ t w R:=by
 have hb:=H.Gt 0 rfl
 have H1:St X w0 (w.setCell ⟨b_,11,none⟩ (.int .i32 1)) [.blk b_ #[c0_,c1_,c2_,c3_,c4_,c5_,c6_,c7_,c8_,c9_,.int .u32 0,.int .i32 1,.int .u32 0,.int .i32 0,.pointer none,c15_,c16_,c17_,c18_,c19_,c20_,c21_,c22_,c23_,c24_,c25_,c26_,c27_,c28_,c29_,c30_,c31_,c32_,c33_,c34_,c35_] 121,.blk fb_ #[.pointer (some ⟨b_,10,none⟩)] 252,.blk Zm #[.int .i64 2] 3]:=H.store 0 rfl 11 (.int .i32 1)
 refine au hf hv ((wV b_ 10 (.pointer (some ⟨Zm,0,none⟩)) (.pointer (some ⟨fb_,0,none⟩)) w (fun w'=>∃b2,St X w0 w' [.blk b_ #[c0_,c1_,c2_,c3_,c4_,c5_,c6_,c7_,c8_,c9_,.int .u32 0,.int .i32 1,.int .u32 0,.int .i32 1,.pointer (some ⟨b2,0,none⟩),c15_,c16_,c17_,c18_,c19_,c20_,c21_,c22_,c23_,c24_,c25_,c26_,c27_,c28_,c29_,c30_,c31_,c32_,c33_,c34_,c35_] 121,.blk fb_ #[.pointer (some ⟨b_,10,none⟩)] 252,.blk Zm #[.int .i64 2] 3,.blk b2 #[.iface 187 (.agg #[]),.int .i64 2] 186]) (ak hb rfl) (ak hb rfl) (dR hb) (dR hb) (MK H1) ?_).mono ?_)
 ·rintro w' ⟨b2,K⟩
  have hk:=K.Gt 0 rfl
  exact⟨ak hk rfl,ak hk rfl,dR hk,dR hk⟩
 rintro _ w' ⟨rfl,w1,⟨b2,K⟩,rfl⟩
 have K1:=K.drew
 have K2:=K1.store 0 rfl 10 (.int .u32 1)
 exact⟨_,rfl,h b2 _ (K2.store 0 rfl 11 (.int .i32 0))⟩
theorem tT{w0:World}{b_:Nat}{c0_ c1_ c2_ c3_ c4_ c5_ c6_ c7_ c8_ c9_ c15_ c16_ c17_ c18_ c19_ c20_ c21_ c22_ c23_ c24_ c25_ c26_ c27_ c28_ c29_ c30_ c31_ c32_ c33_ c34_ c35_:Value}(h:(Rs.blk b_ #[c0_,c1_,c2_,c3_,c4_,c5_,c6_,c7_,c8_,c9_,.int .u32 0,.int .i32 0,.int .u32 0,.int .i32 0,.pointer none,c15_,c16_,c17_,c18_,c19_,c20_,c21_,c22_,c23_,c24_,c25_,c26_,c27_,c28_,c29_,c30_,c31_,c32_,c33_,c34_,c35_] 121).inv w0):
 Calls Tryz.prog 104 #[.pointer (some ⟨b_,10,none⟩),.int .i64 2] w0 fun e w'=>∃b3,e= .returned (.pointer (some ⟨b3,0,none⟩))∧St (Rs.blk b_ #[] 121).fp w0 w' [.blk b_ #[c0_,c1_,c2_,c3_,c4_,c5_,c6_,c7_,c8_,c9_,.int .u32 1,.int .i32 0,.int .u32 0,.int .i32 1,.pointer (some ⟨b3,0,none⟩),c15_,c16_,c17_,c18_,c19_,c20_,c21_,c22_,c23_,c24_,c25_,c26_,c27_,c28_,c29_,c30_,c31_,c32_,c33_,c34_,c35_] 121,.blk b3 #[.iface 187 (.agg #[]),.int .i64 2] 186]:=by
 have H:St (Rs.blk b_ #[] 121).fp w0 w0 [.blk b_ #[c0_,c1_,c2_,c3_,c4_,c5_,c6_,c7_,c8_,c9_,.int .u32 0,.int .i32 0,.int .u32 0,.int .i32 0,.pointer none,c15_,c16_,c17_,c18_,c19_,c20_,c21_,c22_,c23_,c24_,c25_,c26_,c27_,c28_,c29_,c30_,c31_,c32_,c33_,c34_,c35_] 121]:=St.start h
 refine aP (N:=14) (args:=[.pointer (some ⟨b_,10,none⟩),.int .i64 2]) Tryz.func104 rfl rfl j_ ?_
 refine rg (e_ rfl (bc (cs:=#[.pointer (some ⟨b_,10,none⟩)]) H rfl (fun b1 w H=>e_ rfl (bc (cs:=#[.int .i64 2]) H rfl (fun b2 w H=>v_ rfl (sg (.pointer none) rfl) (nl (rg (v_ rfl (av fP rfl (ak (H.Gt 1 rfl) rfl)) (v_ rfl (bw rfl) (v_ rfl (az qb rfl) (v_ rfl (dt [.pointer (some ⟨b2,0,none⟩),.pointer (some ⟨b1,0,none⟩)] rfl) (e_ rfl (Q4 H pZ rfl (fun b3 w H=>nl (rg (v_ rfl (av fP rfl (ak (H.Gt 1 rfl) rfl)) (v_ rfl (bw rfl) (v_ rfl (az lL rfl) (v_ rfl (av qc rfl (ak (H.Gt 0 rfl) rfl)) (v_ rfl (sg (.pointer (some ⟨b3,0,none⟩)) rfl) (nl (aj ?_))))))))))))))))))))))
 exact⟨.inl rfl,_,tk0 rfl ⟨aB rfl (ad ai),_,rfl,H.ag [0,3] rfl rfl⟩⟩
theorem tU{w0:World}{b_ p_:Nat}{c0_ c1_ c2_ c3_ c4_ c5_ c6_ c7_ c8_ c9_ c15_ c16_ c17_ c18_ c19_ c20_ c21_ c22_ c23_ c24_ c25_ c26_ c27_ c28_ c29_ c30_ c31_ c32_ c33_ c34_ c35_:Value}(h:(Rs.blk b_ #[c0_,c1_,c2_,c3_,c4_,c5_,c6_,c7_,c8_,c9_,.int .u32 1,.int .i32 0,.int .u32 0,.int .i32 1,(.pointer (some ⟨p_,0,none⟩)),c15_,c16_,c17_,c18_,c19_,c20_,c21_,c22_,c23_,c24_,c25_,c26_,c27_,c28_,c29_,c30_,c31_,c32_,c33_,c34_,c35_] 121).inv w0):
 Calls Tryz.prog 104 #[.pointer (some ⟨b_,10,none⟩),.int .i64 2] w0 fun e w'=>e= .returned (.pointer (some ⟨p_,0,none⟩))∧St (Rs.blk b_ #[] 121).fp w0 w' [.blk b_ #[c0_,c1_,c2_,c3_,c4_,c5_,c6_,c7_,c8_,c9_,.int .u32 1,.int .i32 0,.int .u32 0,.int .i32 1,(.pointer (some ⟨p_,0,none⟩)),c15_,c16_,c17_,c18_,c19_,c20_,c21_,c22_,c23_,c24_,c25_,c26_,c27_,c28_,c29_,c30_,c31_,c32_,c33_,c34_,c35_] 121]:=by
 have H:St (Rs.blk b_ #[] 121).fp w0 w0 [.blk b_ #[c0_,c1_,c2_,c3_,c4_,c5_,c6_,c7_,c8_,c9_,.int .u32 1,.int .i32 0,.int .u32 0,.int .i32 1,(.pointer (some ⟨p_,0,none⟩)),c15_,c16_,c17_,c18_,c19_,c20_,c21_,c22_,c23_,c24_,c25_,c26_,c27_,c28_,c29_,c30_,c31_,c32_,c33_,c34_,c35_] 121]:=St.start h
 refine aP (N:=14) (args:=[.pointer (some ⟨b_,10,none⟩),.int .i64 2]) Tryz.func104 rfl rfl j_ ?_
 refine rg (e_ rfl (bc (cs:=#[.pointer (some ⟨b_,10,none⟩)]) H rfl (fun b1 w H=>e_ rfl (bc (cs:=#[.int .i64 2]) H rfl (fun b2 w H=>v_ rfl (sg (.pointer none) rfl) (nl (rg (v_ rfl (av fP rfl (ak (H.Gt 1 rfl) rfl)) (v_ rfl (bw rfl) (v_ rfl (az qb rfl) (v_ rfl (dt [.pointer (some ⟨b2,0,none⟩),.pointer (some ⟨b1,0,none⟩)] rfl) (e_ rfl (xX (o:=10) H 0 rfl rfl pZ rfl (fun w H=>nl (rg (v_ rfl (av fP rfl (ak (H.Gt 1 rfl) rfl)) (v_ rfl (bw rfl) (v_ rfl (az lL rfl) (v_ rfl (av qc rfl (ak (H.Gt 0 rfl) rfl)) (v_ rfl (sg (.pointer (some ⟨p_,0,none⟩)) rfl) (nl (aj ?_))))))))))))))))))))))
 exact⟨.inl rfl,_,tk0 rfl ⟨aB rfl (ad ai),rfl,H.ag [0] rfl rfl⟩⟩
theorem ML{w0 w:World}{X:Nat→Prop}{b_ Zm fb_:Nat}{c0_ c1_ c2_ c3_ c4_ c5_ c6_ c7_ c8_ c9_ c10_ c11_ c12_ c13_ c14_ c20_ c21_ c22_ c23_ c24_ c25_ c26_ c27_ c28_ c29_ c30_ c31_ c32_ c33_ c34_ c35_:Value}(H:St X w0 w [.blk b_ #[c0_,c1_,c2_,c3_,c4_,c5_,c6_,c7_,c8_,c9_,c10_,c11_,c12_,c13_,c14_,.int .u32 0,.int .i32 1,.int .u32 0,.int .i32 0,.pointer none,c20_,c21_,c22_,c23_,c24_,c25_,c26_,c27_,c28_,c29_,c30_,c31_,c32_,c33_,c34_,c35_] 121,.blk fb_ #[.pointer (some ⟨b_,15,none⟩)] 252,.blk Zm #[.int .i64 3] 3]):
 Calls Tryz.prog 163 #[.pointer (some ⟨Zm,0,none⟩),.pointer (some ⟨fb_,0,none⟩)] w fun e w'=>e= .returned (.tuple #[])∧∃b2,St X w0 w' [.blk b_ #[c0_,c1_,c2_,c3_,c4_,c5_,c6_,c7_,c8_,c9_,c10_,c11_,c12_,c13_,c14_,.int .u32 0,.int .i32 1,.int .u32 0,.int .i32 1,.pointer (some ⟨b2,0,none⟩),c20_,c21_,c22_,c23_,c24_,c25_,c26_,c27_,c28_,c29_,c30_,c31_,c32_,c33_,c34_,c35_] 121,.blk fb_ #[.pointer (some ⟨b_,15,none⟩)] 252,.blk Zm #[.int .i64 3] 3,.blk b2 #[.iface 188 (.agg #[]),.int .i64 3] 186]:=by
 refine aP (N:=11) (args:=[.pointer (some ⟨Zm,0,none⟩),.pointer (some ⟨fb_,0,none⟩)]) Tryz.func163 rfl rfl j_ ?_
 refine ae (cd (ds:=[5]) wQ H rfl rfl ?_)
 have H:=H.drew
 refine kI (i:=0) (l':=#[true,false,false,false,false,false]) rfl rfl rfl d_ H (fun w H=>av fP rfl (ak (H.Gt 1 rfl) rfl)) (kI (i:=1) (l':=#[true,true,false,false,false,false]) rfl rfl rfl d_ H (fun w H=>av wR rfl (ak (H.Gt 2 rfl) rfl)) (nj (i:=2) (l':=#[true,true,true,false,false,false]) rfl rfl rfl d_ (cm 26 [.int .i64 3] wO Tryz.func77 rfl rfl rfl rfl (rg (v_ rfl (sg (.pointer none) rfl) (nl (ae (rg (v_ rfl (mv (.int .i64 3) rfl) (nl (aG (rg (v_ rfl (bJ (v':= .bool false) (cg rfl rfl) rfl) (v_ rfl (sg (.bool false) rfl) (nl (bS rfl (rg (v_ rfl (bJ (v':= .bool false) (cg rfl rfl) rfl) (v_ rfl (sg (.bool false) rfl) (nl (bS rfl (rg (v_ rfl (bJ (v':= .bool true) (cg rfl rfl) rfl) (v_ rfl (sg (.bool true) rfl) (nl (cl rfl (rg (v_ rfl (cf (cs:=[]) MH rfl) (v_ rfl (uk Tryz.underlying188 rfl) (v_ rfl (mv (.int .i64 3) rfl) (v_ rfl (cf (cs:=[.iface 188 (.agg #[]),.int .i64 3]) wL rfl) (e_ rfl (bc (cs:=#[.iface 188 (.agg #[]),.int .i64 3]) H rfl (fun b2 w H=>v_ rfl (sg (.pointer (some ⟨b2,0,none⟩)) rfl) (nl (aj (bG (aL ⟨.inl rfl,.pointer (some ⟨b2,0,none⟩),tk0 rfl ⟨ba rfl (ad ai) rfl,(⟨fun _=>H.ag [0,1,2] rfl rfl,sd (i:=3) (l':=#[true,true,true,true,false,false]) rfl rfl rfl d_ (H.ag [0,1,2] rfl rfl) (bw rfl) (kI (i:=4) (l':=#[true,true,true,true,true,false]) rfl rfl rfl d_ (H.ag [0,1,2] rfl rfl) (fun w H=>az lL rfl) (nj (i:=5) (l':=#[true,true,true,true,true,true]) rfl rfl rfl d_ (cQ wS H 0 rfl rfl rfl rfl rfl (fun w H=>⟨fun h=>(h f_).elim,(uF d_ ?_)⟩))))⟩)⟩⟩))))))))))))))))))))))))))))))))))))))
 refine ab (aH (v_ rfl (av fP rfl (ak (H.Gt 1 rfl) rfl)) (v_ rfl (bw rfl) (v_ rfl (az wP rfl) (e_ rfl (xU H 0 rfl rfl wN rfl rfl (fun w H=>(aK ?_))))))))
 exact⟨.inr rfl,_,tk0 rfl ⟨aB rfl ai,rfl,_,H⟩⟩
theorem Q5{ρ:Option Nat}{N:Nat}{t:Fr}{w0 w:World}{X:Nat→Prop}{R:Value→World→Prop}{d:Option Nat}{ty:TypeId}{ps:String}{af:Array Edge}{g:Option (Nat×Bool)}{xs:Array Operand}{ats:Array TypeId}{b_ Zm fb_:Nat}{c0_ c1_ c2_ c3_ c4_ c5_ c6_ c7_ c8_ c9_ c10_ c11_ c12_ c13_ c14_ c20_ c21_ c22_ c23_ c24_ c25_ c26_ c27_ c28_ c29_ c30_ c31_ c32_ c33_ c34_ c35_:Value}(H:St X w0 w [.blk b_ #[c0_,c1_,c2_,c3_,c4_,c5_,c6_,c7_,c8_,c9_,c10_,c11_,c12_,c13_,c14_,.int .u32 0,.int .i32 0,.int .u32 0,.int .i32 0,.pointer none,c20_,c21_,c22_,c23_,c24_,c25_,c26_,c27_,c28_,c29_,c30_,c31_,c32_,c33_,c34_,c35_] 121,.blk fb_ #[.pointer (some ⟨b_,15,none⟩)] 252,.blk Zm #[.int .i64 3] 3])(hf:En Tryz.prog 162)(hv:xs.toList.map (ev t)=[.pointer (some ⟨b_,15,none⟩),.func (.func 163) #[] #[.pointer (some ⟨Zm,0,none⟩),.pointer (some ⟨fb_,0,none⟩)]])(h:∀b2 w',St X w0 w' [.blk b_ #[c0_,c1_,c2_,c3_,c4_,c5_,c6_,c7_,c8_,c9_,c10_,c11_,c12_,c13_,c14_,.int .u32 1,.int .i32 0,.int .u32 0,.int .i32 1,.pointer (some ⟨b2,0,none⟩),c20_,c21_,c22_,c23_,c24_,c25_,c26_,c27_,c28_,c29_,c30_,c31_,c32_,c33_,c34_,c35_] 121,.blk fb_ #[.pointer (some ⟨b_,15,none⟩)] 252,.blk Zm #[.int .i64 3] 3,.blk b2 #[.iface 188 (.agg #[]),.int .i64 3] 186]→R (.tuple #[]) w'):Yd Tryz.prog ρ N ⟨d,.call ⟨.value (.func 162),xs,ats⟩,ty,ps,af,g⟩ t w R:=by
 have hb:=H.Gt 0 rfl
 have H1:St X w0 (w.setCell ⟨b_,16,none⟩ (.int .i32 1)) [.blk b_ #[c0_,c1_,c2_,c3_,c4_,c5_,c6_,c7_,c8_,c9_,c10_,c11_,c12_,c13_,c14_,.int .u32 0,.int .i32 1,.int .u32 0,.int .i32 0,.pointer none,c20_,c21_,c22_,c23_,c24_,c25_,c26_,c27_,c28_,c29_,c30_,c31_,c32_,c33_,c34_,c35_] 121,.blk fb_ #[.pointer (some ⟨b_,15,none⟩)] 252,.blk Zm #[.int .i64 3] 3]:=H.store 0 rfl 16 (.int .i32 1)
 refine au hf hv ((wV b_ 15 (.pointer (some ⟨Zm,0,none⟩)) (.pointer (some ⟨fb_,0,none⟩)) w (fun w'=>∃b2,St X w0 w' [.blk b_ #[c0_,c1_,c2_,c3_,c4_,c5_,c6_,c7_,c8_,c9_,c10_,c11_,c12_,c13_,c14_,.int .u32 0,.int .i32 1,.int .u32 0,.int .i32 1,.pointer (some ⟨b2,0,none⟩),c20_,c21_,c22_,c23_,c24_,c25_,c26_,c27_,c28_,c29_,c30_,c31_,c32_,c33_,c34_,c35_] 121,.blk fb_ #[.pointer (some ⟨b_,15,none⟩)] 252,.blk Zm #[.int .i64 3] 3,.blk b2 #[.iface 188 (.agg #[]),.int .i64 3] 186]) (ak hb rfl) (ak hb rfl) (dR hb) (dR hb) (ML H1) ?_).mono ?_)
 ·rintro w' ⟨b2,K⟩
  have hk:=K.Gt 0 rfl
  exact⟨ak hk rfl,ak hk rfl,dR hk,dR hk⟩
 rintro _ w' ⟨rfl,w1,⟨b2,K⟩,rfl⟩
 have K1:=K.drew
 have K2:=K1.store 0 rfl 15 (.int .u32 1)
 exact⟨_,rfl,h b2 _ (K2.store 0 rfl 16 (.int .i32 0))⟩
theorem tV{w0:World}{b_:Nat}{c0_ c1_ c2_ c3_ c4_ c5_ c6_ c7_ c8_ c9_ c10_ c11_ c12_ c13_ c14_ c20_ c21_ c22_ c23_ c24_ c25_ c26_ c27_ c28_ c29_ c30_ c31_ c32_ c33_ c34_ c35_:Value}(h:(Rs.blk b_ #[c0_,c1_,c2_,c3_,c4_,c5_,c6_,c7_,c8_,c9_,c10_,c11_,c12_,c13_,c14_,.int .u32 0,.int .i32 0,.int .u32 0,.int .i32 0,.pointer none,c20_,c21_,c22_,c23_,c24_,c25_,c26_,c27_,c28_,c29_,c30_,c31_,c32_,c33_,c34_,c35_] 121).inv w0):
 Calls Tryz.prog 104 #[.pointer (some ⟨b_,15,none⟩),.int .i64 3] w0 fun e w'=>∃b3,e= .returned (.pointer (some ⟨b3,0,none⟩))∧St (Rs.blk b_ #[] 121).fp w0 w' [.blk b_ #[c0_,c1_,c2_,c3_,c4_,c5_,c6_,c7_,c8_,c9_,c10_,c11_,c12_,c13_,c14_,.int .u32 1,.int .i32 0,.int .u32 0,.int .i32 1,.pointer (some ⟨b3,0,none⟩),c20_,c21_,c22_,c23_,c24_,c25_,c26_,c27_,c28_,c29_,c30_,c31_,c32_,c33_,c34_,c35_] 121,.blk b3 #[.iface 188 (.agg #[]),.int .i64 3] 186]:=by
 have H:St (Rs.blk b_ #[] 121).fp w0 w0 [.blk b_ #[c0_,c1_,c2_,c3_,c4_,c5_,c6_,c7_,c8_,c9_,c10_,c11_,c12_,c13_,c14_,.int .u32 0,.int .i32 0,.int .u32 0,.int .i32 0,.pointer none,c20_,c21_,c22_,c23_,c24_,c25_,c26_,c27_,c28_,c29_,c30_,c31_,c32_,c33_,c34_,c35_] 121]:=St.start h
 refine aP (N:=14) (args:=[.pointer (some ⟨b_,15,none⟩),.int .i64 3]) Tryz.func104 rfl rfl j_ ?_
 refine rg (e_ rfl (bc (cs:=#[.pointer (some ⟨b_,15,none⟩)]) H rfl (fun b1 w H=>e_ rfl (bc (cs:=#[.int .i64 3]) H rfl (fun b2 w H=>v_ rfl (sg (.pointer none) rfl) (nl (rg (v_ rfl (av fP rfl (ak (H.Gt 1 rfl) rfl)) (v_ rfl (bw rfl) (v_ rfl (az qb rfl) (v_ rfl (dt [.pointer (some ⟨b2,0,none⟩),.pointer (some ⟨b1,0,none⟩)] rfl) (e_ rfl (Q5 H pZ rfl (fun b3 w H=>nl (rg (v_ rfl (av fP rfl (ak (H.Gt 1 rfl) rfl)) (v_ rfl (bw rfl) (v_ rfl (az lL rfl) (v_ rfl (av qc rfl (ak (H.Gt 0 rfl) rfl)) (v_ rfl (sg (.pointer (some ⟨b3,0,none⟩)) rfl) (nl (aj ?_))))))))))))))))))))))
 exact⟨.inl rfl,_,tk0 rfl ⟨aB rfl (ad ai),_,rfl,H.ag [0,3] rfl rfl⟩⟩
theorem tW{w0:World}{b_ p_:Nat}{c0_ c1_ c2_ c3_ c4_ c5_ c6_ c7_ c8_ c9_ c10_ c11_ c12_ c13_ c14_ c20_ c21_ c22_ c23_ c24_ c25_ c26_ c27_ c28_ c29_ c30_ c31_ c32_ c33_ c34_ c35_:Value}(h:(Rs.blk b_ #[c0_,c1_,c2_,c3_,c4_,c5_,c6_,c7_,c8_,c9_,c10_,c11_,c12_,c13_,c14_,.int .u32 1,.int .i32 0,.int .u32 0,.int .i32 1,(.pointer (some ⟨p_,0,none⟩)),c20_,c21_,c22_,c23_,c24_,c25_,c26_,c27_,c28_,c29_,c30_,c31_,c32_,c33_,c34_,c35_] 121).inv w0):
 Calls Tryz.prog 104 #[.pointer (some ⟨b_,15,none⟩),.int .i64 3] w0 fun e w'=>e= .returned (.pointer (some ⟨p_,0,none⟩))∧St (Rs.blk b_ #[] 121).fp w0 w' [.blk b_ #[c0_,c1_,c2_,c3_,c4_,c5_,c6_,c7_,c8_,c9_,c10_,c11_,c12_,c13_,c14_,.int .u32 1,.int .i32 0,.int .u32 0,.int .i32 1,(.pointer (some ⟨p_,0,none⟩)),c20_,c21_,c22_,c23_,c24_,c25_,c26_,c27_,c28_,c29_,c30_,c31_,c32_,c33_,c34_,c35_] 121]:=by
 have H:St (Rs.blk b_ #[] 121).fp w0 w0 [.blk b_ #[c0_,c1_,c2_,c3_,c4_,c5_,c6_,c7_,c8_,c9_,c10_,c11_,c12_,c13_,c14_,.int .u32 1,.int .i32 0,.int .u32 0,.int .i32 1,(.pointer (some ⟨p_,0,none⟩)),c20_,c21_,c22_,c23_,c24_,c25_,c26_,c27_,c28_,c29_,c30_,c31_,c32_,c33_,c34_,c35_] 121]:=St.start h
 refine aP (N:=14) (args:=[.pointer (some ⟨b_,15,none⟩),.int .i64 3]) Tryz.func104 rfl rfl j_ ?_
 refine rg (e_ rfl (bc (cs:=#[.pointer (some ⟨b_,15,none⟩)]) H rfl (fun b1 w H=>e_ rfl (bc (cs:=#[.int .i64 3]) H rfl (fun b2 w H=>v_ rfl (sg (.pointer none) rfl) (nl (rg (v_ rfl (av fP rfl (ak (H.Gt 1 rfl) rfl)) (v_ rfl (bw rfl) (v_ rfl (az qb rfl) (v_ rfl (dt [.pointer (some ⟨b2,0,none⟩),.pointer (some ⟨b1,0,none⟩)] rfl) (e_ rfl (xX (o:=15) H 0 rfl rfl pZ rfl (fun w H=>nl (rg (v_ rfl (av fP rfl (ak (H.Gt 1 rfl) rfl)) (v_ rfl (bw rfl) (v_ rfl (az lL rfl) (v_ rfl (av qc rfl (ak (H.Gt 0 rfl) rfl)) (v_ rfl (sg (.pointer (some ⟨p_,0,none⟩)) rfl) (nl (aj ?_))))))))))))))))))))))
 exact⟨.inl rfl,_,tk0 rfl ⟨aB rfl (ad ai),rfl,H.ag [0] rfl rfl⟩⟩
theorem Gr:∀{l:List Int},l.length=16→∃a0 a1 a2 a3 a4 a5 a6 a7 a8 a9 a10 a11 a12 a13 a14 a15,l=[a0,a1,a2,a3,a4,a5,a6,a7,a8,a9,a10,a11,a12,a13,a14,a15]
 | [a0,a1,a2,a3,a4,a5,a6,a7,a8,a9,a10,a11,a12,a13,a14,a15],_=>⟨a0,a1,a2,a3,a4,a5,a6,a7,a8,a9,a10,a11,a12,a13,a14,a15,rfl⟩
variable[de]
theorem nN(f:FD){w:World}(h:(Rs.ah f).inv w):∀x,(x=f.p∨x=f.t)→x<w.heap.size:=fun x hx=>(Rs.ah f).bd w h x (hx.imp id .inl)
theorem jL{b:Nat}{n:List Int}{d:DS}{w w':World}(h:(Rs.gd b d n).inv w)(hc:Ch (fun x=>x=b) w w')(hb:w'.heap[b]? =w.heap[b]?):(Rs.gd b d n).inv w':=
 (Rs.gd b d n).loc w w' (fun x hx=>by
  by_cases e:x=b
  ·rw[e];exact hb
  exact hc.block x ((Rs.gd b d n).bd w h x hx) e) h
theorem iA{b:Nat}{n n':List Int}{d d':DS}{w w':World}(hc:Ch (fun x=>x=b) w w')(hi:(Rs.gd b d' n').inv w')(hf:∀x,d'.own x→w.heap.size≤x∨d.own x):St (Rs.gd b d n).fp w w' [.gd b d' n']:=by
 refine⟨hc.mono fun x _ e=> .inl e,aau,?_,Dc _ _⟩
 intro r hr x hx
 rw[Q_.1 hr]at hx
 rcases hx with e|e|e
 ·exact .inr (.inl e)
 ·exact .inr (.inr (.inl e))
 exact(hf x e).imp id fun e=> .inr (.inr e)
theorem te{b b3 b4:Nat}{g2 g3:Option FD}{cnt:List Int}{w w':World}(h:(Rs.gd b ⟨none,g2,g3⟩ cnt).inv w)(hn:cnt.length=16)(K:St (fun x=>x=b) w w' [.blk b (jg ⟨some ⟨b4,1,b3⟩,g2,g3⟩ cnt).toArray 121,.blk b3 kY.toArray 278,.blk b4 (nI ⟨b4,1,b3⟩) 186]):St (Rs.gd b ⟨none,g2,g3⟩ cnt).fp w w' [.gd b ⟨some ⟨b4,1,b3⟩,g2,g3⟩ cnt]:=by
 have hlt:=(Rs.gd b ⟨none,g2,g3⟩ cnt).bd w h
 obtain⟨h1,h2,h3,h4,h5,h6⟩:=id h
 have hgl:3<w.heap.size:=Rs.gt.bd w h1 3 rfl
 have hbl:b<w.heap.size:=hlt b (.inl rfl)
 have nb3:w.heap.size≤b3:=(K.fp _ (T_ (n:=1) j_) b3 rfl).resolve_right fun e=>by
  have:=K.apart 0 1 f_ rfl rfl b rfl
  have e':b3=b:=e
  exact this e'.symm
 have nb4:w.heap.size≤b4:=(K.fp _ (T_ (n:=2) j_) b4 rfl).resolve_right fun e=>by
  have:=K.apart 0 2 f_ rfl rfl b rfl
  have e':b4=b:=e
  exact this e'.symm
 have e34:¬b4=b3:=fun e=>K.apart 1 2 f_ rfl rfl b3 rfl e.symm
 have hg':Rs.gt.inv w':=Rs.keep h1 K.ch fun x e e'=>h2 (e'.symm.trans e)
 have hk:∀x,x<w.heap.size→¬x=b→w'.heap[x]? =w.heap[x]? :=fun x hx e=>K.ch.block x hx e
 have hm:∀j f,(DS.g ⟨some ⟨b4,1,b3⟩,g2,g3⟩) j=some f→(j=1∧f=⟨b4,1,b3⟩)∨(¬j=1∧(DS.g ⟨none,g2,g3⟩) j=some f):=by
  intro j f e
  by_cases hj:j=1
  ·subst hj;exact .inl ⟨rfl,(FP e).symm⟩
  refine .inr ⟨hj,?_⟩
  match j,hj,e with
  |0,_,e=>cases e
  |1,hj,e=>exact absurd rfl hj
  |2,hj,e=>exact e
  |3,hj,e=>exact e
  |_+4,_,e=>cases e
 have nb:∀x,(x=(⟨b4,1,b3⟩:FD).p∨x=(⟨b4,1,b3⟩:FD).t)→w.heap.size≤x:=fun x hx=>by
  rcases hx with e|e<;>(simp only at e;omega)
 have ob:∀j f x,(DS.g ⟨none,g2,g3⟩) j=some f→(x=f.p∨x=f.t)→x<w.heap.size:=fun j f x e hx=>nN f (h5 j f e).2 x hx
 refine iA K.ch ⟨hg',h2,⟨hn,K.Gt 0 rfl⟩,?_,?_,?_⟩ ?_
 ·rintro⟨j,f,e,hx⟩
  rcases hm j f e with⟨_,rfl⟩|⟨_,e⟩
  ·have:=nb b hx;omega
  exact h4 ⟨j,f,e,hx⟩
 ·intro j f e
  rcases hm j f e with⟨rfl,rfl⟩|⟨_,e⟩
  ·exact⟨rfl,hg',(fun e=>by have e':b4=3:=e;omega),.inl ⟨rfl,K.Gt 2 rfl,e34,false,hg',(fun e=>aaF),K.Gt 1 rfl⟩⟩
  obtain⟨k1,k2⟩:=h5 j f e
  exact⟨k1,nO k2 hg' fun x hx=>hk x (nN f k2 x hx) fun e'=>h4 ⟨j,f,e,e'▸hx⟩⟩
 ·intro j j' f f' e e' hj x hx hy
  rcases hm j f e with⟨rfl,rfl⟩|⟨_,e⟩
  ·rcases hm j' f' e' with⟨rfl,_⟩|⟨_,e'⟩
   ·exact hj rfl
   have:=nb x hx;have:=ob j' f' x e' hy;omega
  rcases hm j' f' e' with⟨rfl,rfl⟩|⟨_,e'⟩
  ·have:=nb x hy;have:=ob j f x e hx;omega
  exact h6 j j' f f' e e' hj x hx hy
 rintro x ⟨j,f,e,hx⟩
 rcases hm j f e with⟨_,rfl⟩|⟨_,e⟩
 ·exact .inl (nb x hx)
 exact .inr ⟨j,f,e,hx⟩
theorem tg{b b3:Nat}{g1 g3:Option FD}{cnt:List Int}{w w':World}(h:(Rs.gd b ⟨g1,none,g3⟩ cnt).inv w)(hn:cnt.length=16)(K:St (fun x=>x=b) w w' [.blk b (jg ⟨g1,some ⟨b3,2,b3⟩,g3⟩ cnt).toArray 121,.blk b3 jI 186]):St (Rs.gd b ⟨g1,none,g3⟩ cnt).fp w w' [.gd b ⟨g1,some ⟨b3,2,b3⟩,g3⟩ cnt]:=by
 have hlt:=(Rs.gd b ⟨g1,none,g3⟩ cnt).bd w h
 obtain⟨h1,h2,h3,h4,h5,h6⟩:=id h
 have hgl:3<w.heap.size:=Rs.gt.bd w h1 3 rfl
 have hbl:b<w.heap.size:=hlt b (.inl rfl)
 have nb3:w.heap.size≤b3:=(K.fp _ (T_ (n:=1) j_) b3 rfl).resolve_right fun e=>by
  have:=K.apart 0 1 f_ rfl rfl b rfl
  have e':b3=b:=e
  exact this e'.symm
 have hg':Rs.gt.inv w':=Rs.keep h1 K.ch fun x e e'=>h2 (e'.symm.trans e)
 have hk:∀x,x<w.heap.size→¬x=b→w'.heap[x]? =w.heap[x]? :=fun x hx e=>K.ch.block x hx e
 have hm:∀j f,(DS.g ⟨g1,some ⟨b3,2,b3⟩,g3⟩) j=some f→(j=2∧f=⟨b3,2,b3⟩)∨(¬j=2∧(DS.g ⟨g1,none,g3⟩) j=some f):=by
  intro j f e
  by_cases hj:j=2
  ·subst hj;exact .inl ⟨rfl,(FP e).symm⟩
  refine .inr ⟨hj,?_⟩
  match j,hj,e with
  |0,_,e=>cases e
  |1,hj,e=>exact e
  |2,hj,e=>exact absurd rfl hj
  |3,hj,e=>exact e
  |_+4,_,e=>cases e
 have nb:∀x,(x=(⟨b3,2,b3⟩:FD).p∨x=(⟨b3,2,b3⟩:FD).t)→w.heap.size≤x:=fun x hx=>by
  rcases hx with e|e<;>(simp only at e;omega)
 have ob:∀j f x,(DS.g ⟨g1,none,g3⟩) j=some f→(x=f.p∨x=f.t)→x<w.heap.size:=fun j f x e hx=>nN f (h5 j f e).2 x hx
 refine iA K.ch ⟨hg',h2,⟨hn,K.Gt 0 rfl⟩,?_,?_,?_⟩ ?_
 ·rintro⟨j,f,e,hx⟩
  rcases hm j f e with⟨_,rfl⟩|⟨_,e⟩
  ·have:=nb b hx;omega
  exact h4 ⟨j,f,e,hx⟩
 ·intro j f e
  rcases hm j f e with⟨rfl,rfl⟩|⟨_,e⟩
  ·exact⟨rfl,hg',(fun e=>aaF),.inr (.inl ⟨rfl,K.Gt 1 rfl,rfl⟩)⟩
  obtain⟨k1,k2⟩:=h5 j f e
  exact⟨k1,nO k2 hg' fun x hx=>hk x (nN f k2 x hx) fun e'=>h4 ⟨j,f,e,e'▸hx⟩⟩
 ·intro j j' f f' e e' hj x hx hy
  rcases hm j f e with⟨rfl,rfl⟩|⟨_,e⟩
  ·rcases hm j' f' e' with⟨rfl,_⟩|⟨_,e'⟩
   ·exact hj rfl
   have:=nb x hx;have:=ob j' f' x e' hy;omega
  rcases hm j' f' e' with⟨rfl,rfl⟩|⟨_,e'⟩
  ·have:=nb x hy;have:=ob j f x e hx;omega
  exact h6 j j' f f' e e' hj x hx hy
 rintro x ⟨j,f,e,hx⟩
 rcases hm j f e with⟨_,rfl⟩|⟨_,e⟩
 ·exact .inl (nb x hx)
 exact .inr ⟨j,f,e,hx⟩
theorem th{b b3:Nat}{g1 g2:Option FD}{cnt:List Int}{w w':World}(h:(Rs.gd b ⟨g1,g2,none⟩ cnt).inv w)(hn:cnt.length=16)(K:St (fun x=>x=b) w w' [.blk b (jg ⟨g1,g2,some ⟨b3,3,b3⟩⟩ cnt).toArray 121,.blk b3 lC 186]):St (Rs.gd b ⟨g1,g2,none⟩ cnt).fp w w' [.gd b ⟨g1,g2,some ⟨b3,3,b3⟩⟩ cnt]:=by
 have hlt:=(Rs.gd b ⟨g1,g2,none⟩ cnt).bd w h
 obtain⟨h1,h2,h3,h4,h5,h6⟩:=id h
 have hgl:3<w.heap.size:=Rs.gt.bd w h1 3 rfl
 have hbl:b<w.heap.size:=hlt b (.inl rfl)
 have nb3:w.heap.size≤b3:=(K.fp _ (T_ (n:=1) j_) b3 rfl).resolve_right fun e=>by
  have:=K.apart 0 1 f_ rfl rfl b rfl
  have e':b3=b:=e
  exact this e'.symm
 have hg':Rs.gt.inv w':=Rs.keep h1 K.ch fun x e e'=>h2 (e'.symm.trans e)
 have hk:∀x,x<w.heap.size→¬x=b→w'.heap[x]? =w.heap[x]? :=fun x hx e=>K.ch.block x hx e
 have hm:∀j f,(DS.g ⟨g1,g2,some ⟨b3,3,b3⟩⟩) j=some f→(j=3∧f=⟨b3,3,b3⟩)∨(¬j=3∧(DS.g ⟨g1,g2,none⟩) j=some f):=by
  intro j f e
  by_cases hj:j=3
  ·subst hj;exact .inl ⟨rfl,(FP e).symm⟩
  refine .inr ⟨hj,?_⟩
  match j,hj,e with
  |0,_,e=>cases e
  |1,hj,e=>exact e
  |2,hj,e=>exact e
  |3,hj,e=>exact absurd rfl hj
  |_+4,_,e=>cases e
 have nb:∀x,(x=(⟨b3,3,b3⟩:FD).p∨x=(⟨b3,3,b3⟩:FD).t)→w.heap.size≤x:=fun x hx=>by
  rcases hx with e|e<;>(simp only at e;omega)
 have ob:∀j f x,(DS.g ⟨g1,g2,none⟩) j=some f→(x=f.p∨x=f.t)→x<w.heap.size:=fun j f x e hx=>nN f (h5 j f e).2 x hx
 refine iA K.ch ⟨hg',h2,⟨hn,K.Gt 0 rfl⟩,?_,?_,?_⟩ ?_
 ·rintro⟨j,f,e,hx⟩
  rcases hm j f e with⟨_,rfl⟩|⟨_,e⟩
  ·have:=nb b hx;omega
  exact h4 ⟨j,f,e,hx⟩
 ·intro j f e
  rcases hm j f e with⟨rfl,rfl⟩|⟨_,e⟩
  ·exact⟨rfl,hg',(fun e=>aaF),.inr (.inr ⟨rfl,K.Gt 1 rfl,rfl⟩)⟩
  obtain⟨k1,k2⟩:=h5 j f e
  exact⟨k1,nO k2 hg' fun x hx=>hk x (nN f k2 x hx) fun e'=>h4 ⟨j,f,e,e'▸hx⟩⟩
 ·intro j j' f f' e e' hj x hx hy
  rcases hm j f e with⟨rfl,rfl⟩|⟨_,e⟩
  ·rcases hm j' f' e' with⟨rfl,_⟩|⟨_,e'⟩
   ·exact hj rfl
   have:=nb x hx;have:=ob j' f' x e' hy;omega
  rcases hm j' f' e' with⟨rfl,rfl⟩|⟨_,e'⟩
  ·have:=nb x hy;have:=ob j f x e hx;omega
  exact h6 j j' f f' e e' hj x hx hy
 rintro x ⟨j,f,e,hx⟩
 rcases hm j f e with⟨_,rfl⟩|⟨_,e⟩
 ·exact .inl (nb x hx)
 exact .inr ⟨j,f,e,hx⟩
theorem MM{b:Nat}{n:List Int}{d:DS}{i:Int}{w:World}(hi:i=1∨i=2∨i=3)(h:(Rs.gd b d n).inv w):Calls Tryz.prog 104 #[.pointer (some ⟨b,0+i.toNat*5,none⟩),.int .i64 i] w fun e w'=>∃f d',e= .returned (.pointer (some ⟨f.p,0,none⟩))∧d'.has f∧St (Rs.gd b d n).fp w w' [.gd b d' n]:=by
 obtain⟨f1,f2,f3⟩:=d
 obtain⟨hn,hb⟩:=id h.2.2.1
 obtain⟨a0,a1,a2,a3,a4,a5,a6,a7,a8,a9,a10,a11,a12,a13,a14,a15,rfl⟩:=Gr hn
 rcases hi with rfl|rfl|rfl
 ·cases f1 with
  |none=>
   cases f2<;>cases f3
   ·refine(tR hb).mono ?_
    rintro e w' ⟨b3,b4,rfl,K⟩
    exact⟨⟨b4,1,b3⟩,⟨some ⟨b4,1,b3⟩,_,_⟩,rfl,⟨1,rfl⟩,te (cnt:=[a0,a1,a2,a3,a4,a5,a6,a7,a8,a9,a10,a11,a12,a13,a14,a15]) h rfl K⟩
   ·refine(tR hb).mono ?_
    rintro e w' ⟨b3,b4,rfl,K⟩
    exact⟨⟨b4,1,b3⟩,⟨some ⟨b4,1,b3⟩,_,_⟩,rfl,⟨1,rfl⟩,te (cnt:=[a0,a1,a2,a3,a4,a5,a6,a7,a8,a9,a10,a11,a12,a13,a14,a15]) h rfl K⟩
   ·refine(tR hb).mono ?_
    rintro e w' ⟨b3,b4,rfl,K⟩
    exact⟨⟨b4,1,b3⟩,⟨some ⟨b4,1,b3⟩,_,_⟩,rfl,⟨1,rfl⟩,te (cnt:=[a0,a1,a2,a3,a4,a5,a6,a7,a8,a9,a10,a11,a12,a13,a14,a15]) h rfl K⟩
   refine(tR hb).mono ?_
   rintro e w' ⟨b3,b4,rfl,K⟩
   exact⟨⟨b4,1,b3⟩,⟨some ⟨b4,1,b3⟩,_,_⟩,rfl,⟨1,rfl⟩,te (cnt:=[a0,a1,a2,a3,a4,a5,a6,a7,a8,a9,a10,a11,a12,a13,a14,a15]) h rfl K⟩
  |some f=>
   cases f2<;>cases f3
   ·refine(tS hb).mono ?_
    rintro e w' ⟨rfl,K⟩
    exact⟨f,_,rfl,⟨1,rfl⟩,iA K.ch (jL h K.ch ((K.Gt 0 rfl).trans hb.symm)) fun x e=> .inr e⟩
   ·refine(tS hb).mono ?_
    rintro e w' ⟨rfl,K⟩
    exact⟨f,_,rfl,⟨1,rfl⟩,iA K.ch (jL h K.ch ((K.Gt 0 rfl).trans hb.symm)) fun x e=> .inr e⟩
   ·refine(tS hb).mono ?_
    rintro e w' ⟨rfl,K⟩
    exact⟨f,_,rfl,⟨1,rfl⟩,iA K.ch (jL h K.ch ((K.Gt 0 rfl).trans hb.symm)) fun x e=> .inr e⟩
   refine(tS hb).mono ?_
   rintro e w' ⟨rfl,K⟩
   exact⟨f,_,rfl,⟨1,rfl⟩,iA K.ch (jL h K.ch ((K.Gt 0 rfl).trans hb.symm)) fun x e=> .inr e⟩
 ·cases f2 with
  |none=>
   cases f1<;>cases f3
   ·refine(tT hb).mono ?_
    rintro e w' ⟨b3,rfl,K⟩
    exact⟨⟨b3,2,b3⟩,⟨_,some ⟨b3,2,b3⟩,_⟩,rfl,⟨2,rfl⟩,tg (cnt:=[a0,a1,a2,a3,a4,a5,a6,a7,a8,a9,a10,a11,a12,a13,a14,a15]) h rfl K⟩
   ·refine(tT hb).mono ?_
    rintro e w' ⟨b3,rfl,K⟩
    exact⟨⟨b3,2,b3⟩,⟨_,some ⟨b3,2,b3⟩,_⟩,rfl,⟨2,rfl⟩,tg (cnt:=[a0,a1,a2,a3,a4,a5,a6,a7,a8,a9,a10,a11,a12,a13,a14,a15]) h rfl K⟩
   ·refine(tT hb).mono ?_
    rintro e w' ⟨b3,rfl,K⟩
    exact⟨⟨b3,2,b3⟩,⟨_,some ⟨b3,2,b3⟩,_⟩,rfl,⟨2,rfl⟩,tg (cnt:=[a0,a1,a2,a3,a4,a5,a6,a7,a8,a9,a10,a11,a12,a13,a14,a15]) h rfl K⟩
   refine(tT hb).mono ?_
   rintro e w' ⟨b3,rfl,K⟩
   exact⟨⟨b3,2,b3⟩,⟨_,some ⟨b3,2,b3⟩,_⟩,rfl,⟨2,rfl⟩,tg (cnt:=[a0,a1,a2,a3,a4,a5,a6,a7,a8,a9,a10,a11,a12,a13,a14,a15]) h rfl K⟩
  |some f=>
   cases f1<;>cases f3
   ·refine(tU hb).mono ?_
    rintro e w' ⟨rfl,K⟩
    exact⟨f,_,rfl,⟨2,rfl⟩,iA K.ch (jL h K.ch ((K.Gt 0 rfl).trans hb.symm)) fun x e=> .inr e⟩
   ·refine(tU hb).mono ?_
    rintro e w' ⟨rfl,K⟩
    exact⟨f,_,rfl,⟨2,rfl⟩,iA K.ch (jL h K.ch ((K.Gt 0 rfl).trans hb.symm)) fun x e=> .inr e⟩
   ·refine(tU hb).mono ?_
    rintro e w' ⟨rfl,K⟩
    exact⟨f,_,rfl,⟨2,rfl⟩,iA K.ch (jL h K.ch ((K.Gt 0 rfl).trans hb.symm)) fun x e=> .inr e⟩
   refine(tU hb).mono ?_
   rintro e w' ⟨rfl,K⟩
   exact⟨f,_,rfl,⟨2,rfl⟩,iA K.ch (jL h K.ch ((K.Gt 0 rfl).trans hb.symm)) fun x e=> .inr e⟩
 cases f3 with
 |none=>
  cases f1<;>cases f2
  ·refine(tV hb).mono ?_
   rintro e w' ⟨b3,rfl,K⟩
   exact⟨⟨b3,3,b3⟩,⟨_,_,some ⟨b3,3,b3⟩⟩,rfl,⟨3,rfl⟩,th (cnt:=[a0,a1,a2,a3,a4,a5,a6,a7,a8,a9,a10,a11,a12,a13,a14,a15]) h rfl K⟩
  ·refine(tV hb).mono ?_
   rintro e w' ⟨b3,rfl,K⟩
   exact⟨⟨b3,3,b3⟩,⟨_,_,some ⟨b3,3,b3⟩⟩,rfl,⟨3,rfl⟩,th (cnt:=[a0,a1,a2,a3,a4,a5,a6,a7,a8,a9,a10,a11,a12,a13,a14,a15]) h rfl K⟩
  ·refine(tV hb).mono ?_
   rintro e w' ⟨b3,rfl,K⟩
   exact⟨⟨b3,3,b3⟩,⟨_,_,some ⟨b3,3,b3⟩⟩,rfl,⟨3,rfl⟩,th (cnt:=[a0,a1,a2,a3,a4,a5,a6,a7,a8,a9,a10,a11,a12,a13,a14,a15]) h rfl K⟩
  refine(tV hb).mono ?_
  rintro e w' ⟨b3,rfl,K⟩
  exact⟨⟨b3,3,b3⟩,⟨_,_,some ⟨b3,3,b3⟩⟩,rfl,⟨3,rfl⟩,th (cnt:=[a0,a1,a2,a3,a4,a5,a6,a7,a8,a9,a10,a11,a12,a13,a14,a15]) h rfl K⟩
 |some f=>
  cases f1<;>cases f2
  ·refine(tW hb).mono ?_
   rintro e w' ⟨rfl,K⟩
   exact⟨f,_,rfl,⟨3,rfl⟩,iA K.ch (jL h K.ch ((K.Gt 0 rfl).trans hb.symm)) fun x e=> .inr e⟩
  ·refine(tW hb).mono ?_
   rintro e w' ⟨rfl,K⟩
   exact⟨f,_,rfl,⟨3,rfl⟩,iA K.ch (jL h K.ch ((K.Gt 0 rfl).trans hb.symm)) fun x e=> .inr e⟩
  ·refine(tW hb).mono ?_
   rintro e w' ⟨rfl,K⟩
   exact⟨f,_,rfl,⟨3,rfl⟩,iA K.ch (jL h K.ch ((K.Gt 0 rfl).trans hb.symm)) fun x e=> .inr e⟩
  refine(tW hb).mono ?_
  rintro e w' ⟨rfl,K⟩
  exact⟨f,_,rfl,⟨3,rfl⟩,iA K.ch (jL h K.ch ((K.Gt 0 rfl).trans hb.symm)) fun x e=> .inr e⟩
section
variable{ρ:Option Nat}{N:Nat}{t:Fr}{w w0:World}{X:Nat→Prop}{L:List Rs}{R:Value→World→Prop}{dd:Option Nat}{ty:TypeId}{ps:String}{af:Array Edge}{g:Option (Nat×Bool)}{x y:Operand}{ats:Array TypeId}{b:Nat}{d:DS}{n:List Int}
theorem Eb{i:Int}(H:St X w0 w L)(q:Nat)(hq:L[q]? =some (.gd b d n))(hf:En Tryz.prog 104)(hx:ev t x= .pointer (some ⟨b,0+i.toNat*5,none⟩))(hy:ev t y= .int .i64 i)(hi:i=1∨i=2∨i=3)(h:∀(f:FD)(d':DS) w',d'.has f→St X w0 w' (L.set q (.gd b d' n))→R (.pointer (some ⟨f.p,0,none⟩)) w'):Yd Tryz.prog ρ N ⟨dd,.call ⟨.value (.func 104),#[x,y],ats⟩,ty,ps,af,g⟩ t w R:=by
 refine au hf (vs:=[.pointer (some ⟨b,0+i.toNat*5,none⟩),.int .i64 i]) (by simp[hx,hy]) ((MM hi (H.Gt q hq)).mono ?_)
 rintro _ w' ⟨f,d',rfl,hd,K⟩
 have:=H.aV q hq K
 rw[fQ]at this
 exact⟨_,rfl,h f d' w' hd this⟩
theorem sH(d:DS):(lx none++lx d.f1++lx d.f2++lx d.f3).length=20:=by
 have h:∀o,(lx o).length=5:=fun o=>by cases o<;>rfl
 simp[h]
theorem zb{d:DS}{l:List Int}{k:Nat}{v:Int}(h:l[k]? =some v):(jg d l).toArray[20+k]? =some (.int .i64 v):=by
 rw[aai,jg,ε (by rw[sH];omega),sH,ZV,Lr,h];rfl
theorem GA{d:DS}{l:List Int}{k:Nat}{v:Int}:(jg d l).toArray.setIfInBounds (20+k) (.int .i64 v)=(jg d (l.set k v)).toArray:=by
 rw[List.setIfInBounds_toArray,jg,DZ _ _ (by rw[sH];omega),sH,ZV]
 congr 1
 rw[jg,List.map_set]
theorem EH{P:Program}(v:Int)(w:World):(Op.intArith .add .i64 v 1).run P w= .ok (.int .i64 (I W (v+1))) w:=ZZ
theorem MT(a:Addr)(v:Int)(w:World)(hc:w.cell? a=some (.int .i64 v))(hz:w.frozen? a=false):
 Calls Tryz.prog 107 #[.pointer (some a),.int .i64 1] w fun e w'=>e= .returned (.int .i64 (I W (v+1)))∧w'=w.setCell a (.int .i64 (I W (v+1))):=by
 have hs:(Op.intArith .add .i64 v 1).run Tryz.prog w= .ok (.int .i64 (I W (v+1))) w:=EH v w
 generalize I W (v+1)=s at hs⊢
 have hadd:=run_call_add (P:=Tryz.prog) Tryz.func168 d_ d_ d_ .i64 d_ (y:=1) (s:=s) hc hz hs
 go_enter Tryz.func107,(show Tryz.f107.ntmps=_ from rfl)
 go_wp2
 go_ret
 exact⟨rfl,rfl⟩
theorem MV(a:Addr)(v:Int)(w:World)(hc:w.cell? a=some (.int .i64 v)):
 Calls Tryz.prog 125 #[.pointer (some a)] w fun e w'=>e= .returned (.int .i64 v)∧w'=w:=by
 have hl:=run_call_load (P:=Tryz.prog) Tryz.func192 d_ d_ d_ .i64 d_ hc
 go_enter Tryz.func125,(show Tryz.f125.ntmps=_ from rfl)
 go_wp2
 go_ret
 exact⟨rfl,rfl⟩
def cW(i j:Int):Int:=4*i+j
theorem QS{i j:Int}(H:St X w0 w L)(q:Nat)(hq:L[q]? =some (.gd b d n))(hf:En Tryz.prog 107)(hx:ev t x= .pointer (some ⟨b,20+i.toNat*4+j.toNat*1,none⟩))(hy:ev t y= .int .i64 1)(hi:0≤i)(hi2:i<4)(hj:0≤j)(hj2:j<4)(h:∀w',St X w0 w' (L.set q (.gd b d (n.set (cW i j).toNat (I W (at_ 0 n (cW i j)+1)))))→R (.int .i64 (I W (at_ 0 n (cW i j)+1))) w'):Yd Tryz.prog ρ N ⟨dd,.call ⟨.value (.func 107),#[x,y],ats⟩,ty,ps,af,g⟩ t w R:=by
 have hg:=H.Gt q hq
 obtain⟨h1,h2,⟨h3,h3'⟩,h4,h5,h6⟩:=id hg
 have ek:20+i.toNat*4+j.toNat*1=20+(cW i j).toNat:=aal
 have hv:n[(cW i j).toNat]? =some (at_ 0 n (cW i j)):=ga 0 aal (by rw[h3];unfold cW;omega)
 rw[ek]at hx
 refine au hf (vs:=[.pointer (some ⟨b,20+(cW i j).toNat,none⟩),.int .i64 1]) (by simp[hx,hy]) ((MT ⟨b,20+(cW i j).toNat,none⟩ _ w (ak h3' (zb hv)) (dR h3')).mono ?_)
 rintro _ w' ⟨rfl,rfl⟩
 have hb:=ll (o:=20+(cW i j).toNat) (.int .i64 (I W (at_ 0 n (cW i j)+1))) h3'
 rw[GA]at hb
 have hc:Ch (fun x=>x=b) w (w.setCell ⟨b,20+(cW i j).toNat,none⟩ (.int .i64 (I W (at_ 0 n (cW i j)+1)))):= .set _ _ _ rfl
 refine⟨_,rfl,h _ (H.put q hq (hc.mono fun x _ e=> .inl e) ⟨Rs.keep h1 hc fun x e e'=>h2 (e'.symm.trans e),h2,⟨by simpa using h3,hb⟩,h4,fun i f hf=>⟨(h5 i f hf).1,?_⟩,h6⟩ fun x e=> .inl e)⟩
 exact nO (h5 i f hf).2 (Rs.keep h1 hc fun x e e'=>h2 (e'.symm.trans e)) fun x hx=>hc.block x (nN f (h5 i f hf).2 x hx) fun e=>h4 ⟨i,f,hf,e▸hx⟩
theorem Rc{i j:Int}(H:St X w0 w L)(q:Nat)(hq:L[q]? =some (.gd b d n))(hf:En Tryz.prog 125)(hx:ev t x= .pointer (some ⟨b,20+i.toNat*4+j.toNat*1,none⟩))(hi:0≤i)(hi2:i<4)(hj:0≤j)(hj2:j<4)(h:∀w',St X w0 w' L→R (.int .i64 (at_ 0 n (cW i j))) w'):Yd Tryz.prog ρ N ⟨dd,.call ⟨.value (.func 125),#[x],ats⟩,ty,ps,af,g⟩ t w R:=by
 obtain⟨h1,h2,⟨h3,h3'⟩,h4,h5,h6⟩:=id (H.Gt q hq)
 have ek:20+i.toNat*4+j.toNat*1=20+(cW i j).toNat:=aal
 have hv:n[(cW i j).toNat]? =some (at_ 0 n (cW i j)):=ga 0 aal (by rw[h3];unfold cW;omega)
 rw[ek]at hx
 refine au hf (vs:=[.pointer (some ⟨b,20+(cW i j).toNat,none⟩)]) (by simp[hx]) ((MV ⟨b,20+(cW i j).toNat,none⟩ _ w (ak h3' (zb hv))).mono ?_)
 rintro _ w' ⟨rfl,rfl⟩
 exact⟨_,rfl,h _ H⟩
end
end Go.Proofs.YtmhkpafkadijgaaGreatDoor.Gw
