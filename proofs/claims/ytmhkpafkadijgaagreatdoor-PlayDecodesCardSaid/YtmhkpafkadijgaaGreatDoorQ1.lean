/- A part of the proof of Rows.PlayDecodesCardSaid; the conditions are that card's own. -/
import Derived.Test.YtmhkpafkadijgaaGreatDoorQ0
import Derived.Laws.StructEq
import Derived.Maps.OwnSet
import Derived.Lib.SlKeysI
import Derived.Shelf.Abstract
set_option linter.all false
namespace Go.Proofs.YtmhkpafkadijgaaGreatDoor.Gw
open Go Go.RowKit
def aU(t:Fr):List (Nat×Value)→Fr
 | []=>t
 |(i,v)::l=>aU (upd t i v) l
def ya(t:Fr):List (Nat×Value)→Prop
 | []=>True
 |(i,v)::l=>t i=v∧ya t l
theorem Qq(t:Fr)(i:Nat):upd t i (t i)=t:=by
 funext j;unfold upd
 cases h:Nat.beq j i
 ·rfl
 rw[eF h];rfl
theorem aD{t:Fr}:∀{l:List (Nat×Value)},ya t l→t=aU t l
 | [],_=>rfl
 |(i,v)::l,⟨h1,h2⟩=>by
  unfold aU;rw[←h1,Qq];exact aD h2
theorem ay{α β:Type}{o:Option α}{f:α→Option β}{r:β}(h:o.bind f=some r):∃x,o=some x∧f x=some r:=by
 cases o with
 |none=>cases h
 |some x=>exact⟨x,rfl,h⟩
def an{α:Type}(b:Bool)(x:Option α):Option α:=bif b then x else none
theorem ar{α:Type}{p:Prop}[Decidable p]{x:Option α}{r:α}(h:an (decide p) x=some r):p∧x=some r:=by
 unfold an at h
 by_cases hp:p
 ·simp only[hp,decide_true,EK]at h;exact⟨hp,h⟩
 simp only[hp,decide_false,U_]at h;cases h
theorem iT{α:Type}{b:Bool}{x y:Option α}{r:α}(h:b=true)(H:(bif b then x else y)=some r):x=some r:=by rw[h]at H;exact H
theorem iF{α:Type}{b:Bool}{x y:Option α}{r:α}(h:b=false)(H:(bif b then x else y)=some r):y=some r:=by rw[h]at H;exact H
section
variable{P:Program}{ρ:Option Nat}{N:Nat}{Q:Exit→Fr→World→Prop}{nx:Fr→World→Prop}{t:Fr}{w w0:World}{X:Nat→Prop}{L M:List Rs}
theorem ab(h:nx t w):lg nx Q .normal t w:=h
theorem aR{i:Nat}(h:Q .normal t w):Bk i Q .normal t w:=h
theorem aL(h:Q .ret t w):lg nx Q .ret t w:=h
theorem bG{i:Nat}(h:Q .ret t w):Bk i Q .ret t w:=h
theorem aM{i:Nat}(h:Q (.exit i) t w):lg nx Q (.exit i) t w:=h
theorem bu{i:Nat}(h:Q .normal t w):Bk i Q (.exit i) t w:=by simp only[Bk,Nw];exact h
theorem qs{i j:Nat}(hij:(i==j)=false)(h:Q (.exit i) t w):Bk j Q (.exit i) t w:=by
 simp only[Bk];rw[I_ (by simpa using hij)];exact h
theorem St.app{w':World}(H:St X w0 w L)(K:St no w w' M):St X w0 w' (L++M):=by
 have h1:=H.call K.ch
 refine⟨h1.ch,fun r hr=>?_,fun r hr b hb=>?_,?_⟩
 ·rcases dO.1 hr with h|h
  ·exact h1.inv r h
  exact K.inv r h
 ·rcases dO.1 hr with h|h
  ·exact h1.fp r h b hb
  exact .inl (Lh H.ch.size ((K.fp r h b hb).resolve_right (fun x=>x)))
 rw[LJ]
 refine⟨H.dj,K.dj,fun a ha s hs b h1 h2=>?_⟩
 have:=a.bd w (H.inv a ha) b h1
 have:=(K.fp s hs b h2).resolve_right (fun x=>x)
 omega
theorem St.pre(H:St X w0 w (L++M)):St X w0 w L:=
 ⟨H.ch,fun r hr=>H.inv r (FC _ hr),fun r hr=>H.fp r (FC _ hr),(LJ.1 H.dj).1⟩
theorem St.aV{w':World}{r r':Rs}(H:St X w0 w L)(i:Nat)(hi:L[i]? =some r)(K:St r.fp w w' (r'::M)):St X w0 w' (L.set i r'++M):=by
 have hr':∀b,r'.fp b→r.fp b∨w.heap.size≤b:=fun b hb=>(K.fp r' H_ b hb).symm
 have h1:=H.put i hi K.ch (K.inv r' H_) hr'
 have old:∀a∈L.set i r',∀b,a.fp b→b<w.heap.size∨r'.fp b:=by
  intro a ha b hb
  rcases NK ha with h|h
  ·exact .inl (a.bd w (H.inv a h) b hb)
  subst h;exact .inr hb
 refine⟨h1.ch,fun s hs=>?_,fun s hs b hb=>?_,?_⟩
 ·rcases dO.1 hs with h|h
  ·exact h1.inv s h
  exact K.inv s (o_ _ h)
 ·rcases dO.1 hs with h|h
  ·exact h1.fp s h b hb
  rcases K.fp s (o_ _ h) b hb with h2|h2
  ·exact .inl (Lh H.ch.size h2)
  exact H.fp r (ω hi) b h2
 rw[LJ]
 refine⟨h1.dj,(Ξ.1 K.dj).2,fun a ha s hs b h2 h3=>?_⟩
 have hs':=o_ r' hs
 by_cases har:r'.fp b
 ·exact(Ξ.1 K.dj).1 s hs b har h3
 
 have hlt:=(old a ha b h2).resolve_right har
 rcases K.fp s hs' b h3 with h4|h4
 ·omega
 rcases NK ha with h5|h5
 ·obtain⟨j,hj,e⟩:=ES ha
  rw[LV]at e
  have hj':j<L.length:=aat
  by_cases hij:i=j
  ·rw[M_ hij]at e;exact har (e▸h2)
  rw[I_ hij]at e
  exact H.apart j i (fun e=>hij e.symm) (C_ hj') hi b (by rw[e];exact h2) h4
 exact har (h5▸h2)
theorem St.ag(H:St X w0 w L)(is:List Nat)(h:is.map (fun i=>L[i]?)=M.map some)(hn:decide is.Nodup=true):St X w0 w M:=by
 have hm:∀(is:List Nat)(M:List Rs),is.map (fun i=>L[i]?)=M.map some→∀r∈M,∃i∈is,L[i]? =some r:=by
  intro is M h r hr
  have:some r∈is.map (fun i=>L[i]?):=h▸List.mem_map_of_mem hr
  obtain⟨i,hi,e⟩:=uV.1 this
  exact⟨i,hi,e⟩
 refine⟨H.ch,fun r hr=>?_,fun r hr=>?_,?_⟩
 ·obtain⟨i,_,e⟩:=hm _ _ h r hr;exact H.Gt i e
 ·obtain⟨i,_,e⟩:=hm _ _ h r hr;exact H.fp r (ω e)
 replace hn:=aT hn
 revert hn h
 induction is generalizing M with
 |nil=>intro h _;cases M with
  |nil=>exact .nil
  |cons a M=>cases h
 |cons i is ih=>
  intro h hn
  cases M with
  |nil=>cases h
  |cons r M=>
   simp only[ι,P7]at h
   refine Ξ.2 ⟨fun s hs=>?_,ih h.2 (wI.1 hn).2⟩
   obtain⟨j,hj,e⟩:=hm _ _ h.2 s hs
   exact H.apart i j (fun e=>(wI.1 hn).1 (e▸hj)) h.1 e
def Ol(X:Nat→Prop)(w:World):Nat→Prop:=fun b=>b<w.heap.size∧¬X b
theorem St.rd{α:Type}{κ:Kd α}{v:Value}{l:List α}(H:St X w0 w L)(h:Rd κ w0 (Ol X w0) v l):Rd κ w (Ol X w0) v l:=
 h.keep fun b hb=>H.ch.block b hb.1 hb.2
theorem St.arg{α:Type}{κ:Kd α}{v:Value}{l:List α}(H:St X w0 w L)(h:Rd κ w (Ol X w0) v l):Rd κ w (Ol no w) v l:=
 h.mono fun _ hb=>⟨ED hb.1 H.ch.size,fun x=>x⟩
theorem St.cj{α:Type}{κ:Kd α}{v:Value}{l:List α}(H:St X w0 w L)(i:Nat){r:Rs}(hi:L[i]? =some r)(h:Rd κ w (Ol X w0) v l):Rd κ w (Ol r.fp w) v l:=
 h.mono fun b hb=>⟨ED hb.1 H.ch.size,fun x=>hb.2 ((H.fp r (ω hi) b x).resolve_left (by have:=hb.1;omega))⟩
theorem St.own{α:Type}{κ:Kd α}{v:Value}{l:List α}(H:St X w0 w L)(q:Nat){s:Rs}(hq:L[q]? =some s)(h:Rd κ w s.fp v l):Rd κ w (Ol no w) v l:=
 h.mono fun b hb=>⟨s.bd w (H.Gt q hq) b hb,fun x=>x⟩
theorem St.cb{α:Type}{κ:Kd α}{v:Value}{l:List α}(H:St X w0 w L)(q i:Nat){s r:Rs}(hq:L[q]? =some s)(hi:L[i]? =some r)(hne:(q==i)=false)(h:Rd κ w s.fp v l):Rd κ w (Ol r.fp w) v l:=
 h.mono fun b hb=>⟨s.bd w (H.Gt q hq) b hb,H.apart q i aam hq hi b hb⟩
theorem eG{b o n:Nat}{cs:Array Value}{T:TypeId}{l:List Value}(h:(Rs.blk b cs T).inv w)(hl:(cs.toList.drop o).take n=l):w.rangeAt b o l:=by
 intro j v hv
 refine ak h ?_
 rw[←hl,Ac]at hv
 split at hv
 ·rw[IE]at hv;simpa using hv
 cases hv
def kD(cs:Array Value):Nat→List Value→Array Value
 |_,[]=>cs
 |o,v::l=>kD (cs.toList.set o v).toArray (o+1) l
theorem qE{b:Nat}{T:TypeId}:∀(l:List Value)(o:Nat)(cs:Array Value)(w:World),(Rs.blk b cs T).inv w→(Rs.blk b (kD cs o l) T).inv (w.setCells b o l)
 | [],_,_cs,_w,h=>h
 |v::l,o,_cs,_w,h=>qE l (o+1) _ _ (by have:=ll (o:=o) v h;rwa[show _cs.setIfInBounds o v=(_cs.toList.set o v).toArray from by apply EZ;simp]at this)
theorem qJ{b:Nat}:∀(l:List Value)(o:Nat)(w:World),Ch (fun x=>x=b) w (w.setCells b o l)
 | [],_,_=> .refl _ _
 |v::l,o,w=>Ch.trans (X:=fun x=>x=b) (Ch.set (X:=fun x=>x=b) w ⟨b,o,none⟩ v rfl) (qJ l (o+1) _)
variable{R:Value→World→Prop}{d:Option Nat}{ty T T':TypeId}{ps:String}{af:Array Edge}{g:Option (Nat×Bool)}{x y:Operand}
theorem bc{cs:Array Value}(H:St X w0 w L)(hx:(ev t x).cells=cs)(h:∀b w',St X w0 w' (L++[.blk b cs T])→R (.pointer (some ⟨b,0,none⟩)) w'):Yd P ρ N ⟨d,.box T x,ty,ps,af,g⟩ t w R:=
 xV hx (h _ _ (H.box cs T))
def Zr(P:Program)(T:TypeId)(cs:Array Value):Prop:=∃v,(P.info? T).bind (·.zero)=some v∧v.cells=cs
theorem cr{cs:Array Value}(hz:Zr P T cs)(H:St X w0 w L)(h:∀b w',St X w0 w' (L++[.blk b cs T])→R (.pointer (some ⟨b,0,none⟩)) w'):Yd P ρ N ⟨d,.alloc T,ty,ps,af,g⟩ t w R:=by
 obtain⟨v,h1,h2⟩:=hz
 exact uK h1 h2 (h _ _ (H.box cs T))
theorem cQ{b o:Nat}{cs:Array Value}{v old:Value}{T0:TypeId}(hT:Sz P T 1)(H:St X w0 w L)(i:Nat)(hi:L[i]? =some (.blk b cs T0))(hx:ev t x= .pointer (some ⟨b,o,none⟩))(hy:(ev t y).cells=#[v])(h1:v.oneCell'=true)(hc:cs[o]? =some old)(h:∀w',St X w0 w' (L.set i (.blk b (cs.toList.set o v).toArray T0))→R undef w'):Yd P ρ N ⟨d,.store T x y,ty,ps,af,g⟩ t w R:=
 Ec hT hx hy h1 (ak (H.Gt i hi) hc) (dR (H.Gt i hi)) (h _ (by have:=H.store i hi o v;rwa[show cs.setIfInBounds o v=(cs.toList.set o v).toArray from by apply EZ;simp]at this))
theorem cy{b o n:Nat}{cs Rn:Array Value}{T0:TypeId}(hT:Sz P T n)(H:St X w0 w L)(i:Nat)(hi:L[i]? =some (.blk b cs T0))(hx:ev t x= .pointer (some ⟨b,o,none⟩))(hy:ev t y= .agg Rn)(hn:Rn.size=n)(h1':Rn.toList.all (·.oneCell')=true)(hc:Nat.ble (o+Rn.size) cs.size=true)(h:∀w',St X w0 w' (L.set i (.blk b (kD cs o Rn.toList) T0))→R undef w'):Yd P ρ N ⟨d,.store T x y,ty,ps,af,g⟩ t w R:=by
 subst hn
 have h1:Rn.all (·.oneCell')=true:=by rw[←h1',Array.all_toList]
 have hc':o+Rn.size≤cs.size:=Z_ hc
 refine xZ hT hx hy (fun j hj=>⟨?_,dR (H.Gt i hi)⟩) h1 (h _ (H.put i hi (qJ _ _ _) (qE _ _ _ _ (H.Gt i hi)) (fun _ hb=> .inl hb)))
 rw[ak (H.Gt i hi) (La a_)];rfl
theorem bp{b o n:Nat}{cs:Array Value}{T0:TypeId}{l:List Value}(hT:Ag P T n)(h:(Rs.blk b cs T0).inv w)(hx:ev t x= .pointer (some ⟨b,o,none⟩))(hl:(cs.toList.drop o).take n=l)(hn:l.length=n):Rv P ⟨d,.load T x,ty,ps,af,g⟩ t w (.agg l.toArray):=by
 subst hn
 exact rT hT hx (eG h hl)
theorem au{f:FuncId}{xs:Array Operand}{Rn:Array TypeId}{vs:List Value}(hf:En P f)(hv:xs.toList.map (ev t)=vs)(h:Calls P f vs.toArray w fun e w''=>∃v,e= .returned v∧R v w''):
 Yd P ρ N ⟨d,.call ⟨.value (.func f),xs,Rn⟩,ty,ps,af,g⟩ t w R:=
 QW hf (vs:=vs.toArray) Lc h
theorem kZ{f:FuncId}{xs:Array Operand}{Rn:Array TypeId}{vs:List Value}{cap:Array Value}(hx:ev t x= .func (.func f) #[] cap)(hf:En P f)(hv:xs.toList.map (ev t)++cap.toList=vs)(h:Calls P f vs.toArray w fun e w''=>∃v,e= .returned v∧R v w''):
 Yd P ρ N ⟨d,.call ⟨.value x,xs,Rn⟩,ty,ps,af,g⟩ t w R:=
 QX hx hf (vs:=vs.toArray) Lc h
end
theorem xy(o:Nat):∀(vs:List Value)(k:Nat)(cs:Array Value),o+k+vs.length≤cs.size→
 ((vs.zipIdx k).foldl (fun(cs:Array Value)(p:Value×Nat)=>cs.setIfInBounds (o+p.2) p.1) cs).toList=cs.toList.take (o+k)++vs++cs.toList.drop (o+k+vs.length)
 | [],k,cs,_=>j_
 |v::vs,k,cs,h=>by
  simp only[r_]at h
  rw[List.zipIdx_cons,P6,xy o vs (k+1) _ l_]
  simp only[abe,r_]
  rw[List.take_set,List.drop_set,M_ a_]
  have h1:o+(k+1)=o+k+1:=a_
  rw[h1,y_ l_,DZ _ _ l_]
  have h2:o+k-(List.take (o+k) cs.toList).length=0:=l_
  rw[h2,show o+k+1+vs.length=o+k+(vs.length+1) by omega]
  simp
def uQ{α:Type}(e:bm α)(t:Fr):Nat→List (Nat×Operand)→List α→Prop
 |_,[],[]=>True
 |i,(j,x)::ps,a::l=>j=i∧(ev t x).cells=(e.en a).toArray∧uQ e t (i+1) ps l
 |_,_,_=>False
theorem zX{α:Type}(e:bm α)(t:Fr):∀(ps:List (Nat×Operand))(l:List α)(i:Nat)(cs:Array Value),uQ e t i ps l→cs.size=(i+l.length)*e.sz→
 Instr.fill (fun i=>some (i*e.sz,e.sz)) cs (ps.map fun p=>(p.1,ev t p.2))=some ((cs.toList.take (i*e.sz)++e.all l).toArray)
 | [],[],i,cs,_,hs=>by
  simp only[rW,Instr.fill,Ll]
  apply EZ
  simp only[N_,Gy]at hs
  simp[bm.all,D_ (by simp;omega:cs.toList.length≤i*e.sz)]
 | [],_::_,_,_,h,_=>h.elim
 |_::_,[],_,_,h,_=>h.elim
 |(j,x)::ps,a::l,i,cs,⟨h1,h2,h3⟩,hs=>by
  subst h1
  have hz:(ev t x).cells.size=e.sz:=by rw[h2];simp[e.len]
  simp only[r_]at hs
  have hs':cs.size=j*e.sz+e.sz+l.length*e.sz:=by rw[hs,V_,V_];omega
  simp only[ι,Instr.fill]
  rw[I_ ZT]
  have key:=xy (j*e.sz) (e.en a) 0 cs (by simp[e.len];omega)
  have e1:(Array.foldl (fun cs x=>match x with|(c,j_1)=>cs.setIfInBounds (j*e.sz+j_1) c) cs (ev t x).cells.zipIdx)=(cs.toList.take (j*e.sz)++e.en a++cs.toList.drop (j*e.sz+e.sz)).toArray:=by
   apply EZ
   rw[h2]
   have:(e.en a).toArray.zipIdx=((e.en a).zipIdx).toArray:=j_
   rw[this,aaD]
   simpa [e.len] using key
  rw[e1,zX e t ps l (j+1) _ h3 (by simp[e.len];rw[hs',V_,V_];omega)]
  congr 1
  have:(j+1)*e.sz=j*e.sz+e.sz:=O_
  rw[this]
  apply EZ
  simp only[bm.all,KT]
  rw[Lj (by simp[e.len];omega),D_ (by simp[e.len];omega)]
  simp
theorem cL{α:Type}{P:Program}{ρ:Option Nat}{N:Nat}{t:Fr}{w w0:World}{X:Nat→Prop}{L:List Rs}{R:Value→World→Prop}{d:Option Nat}{ty T:TypeId}{ps:String}{af:Array Edge}{g:Option (Nat×Bool)}{e:bm α}{E by_ n:Nat}{zz:Value}{parts:Array (Nat×Operand)}{l:List α}(hT:Sl P T E e.sz by_ zz)(H:St X w0 w L)(hn:l.length=n)(hle:n*e.sz≤16777216)(hf:uQ e t 0 parts.toList l)(hn0:0<n)(h:∀v w',St X w0 w' (L++[.own e E v l])→R v w'):Yd P ρ N ⟨d,.buildSlice T n parts,ty,ps,af,g⟩ t w R:=by
 refine QU hT H hn hle ?_ hn0 h
 have:=zX e t parts.toList l 0 ((Array.range (n*e.sz)).map (zz.cells[·%zz.cells.size]!)) hf (by simp[hn])
 simp only[ND,bP,ψ]at this
 rw[←this]
 congr 1
 simp
section
variable{P:Program}{ρ:Option Nat}{N:Nat}{Q:Exit→Fr→World→Prop}{t:Fr}{w w0:World}{X:Nat→Prop}{L M:List Rs}{R:Value→World→Prop}{d:Option Nat}{ty T T':TypeId}{ps:String}{af:Array Edge}{g:Option (Nat×Bool)}{x y:Operand}{α:Type}
theorem iD{T E:TypeId}(h:P.underlying T=some (.slice E)):((#[T]:Array TypeId)[0]?).bind P.underlying=some (.slice E):=h
theorem ja{T E sz by_:Nat}{z:Value}(h1:P.underlying T=some (.slice E))(h2:(P.info? E).map (fun i=>(i.zero,i.size,i.bytes))=some (some z,sz,by_))(h3:z.cells.size=sz)(h4:0<sz):Sl P T E sz by_ z:=by
 cases hi:P.info? E with
 |none=>simp[hi]at h2
 |some i=>
  simp[hi]at h2
  exact⟨h1,i,hi,h2.2.1,h2.2.2,h2.1,h3,h4⟩
theorem cd{id n:Nat}{l:List Oper}{ds:List Nat}(hm:P.follows .mixedOrders=true)(_H:St X w0 w L)(hn:l.length=n){l0:Array Bool}(hl:Array.replicate n false=l0)(h:Wa P ρ N l.toArray Q (fun w=>St X w0 w L) ds n l0 t w.drew):Wc P ρ N Q (.region id l.toArray true) t w:=by subst hl;exact DW hm hn h
theorem St.bs(H:St X w0 w L):St X w0 w []:=⟨H.ch,j_,j_,.nil⟩
theorem St.bA(H:St X w0 w L)(i:Nat){r:Rs}(hi:L[i]? =some r):St X w0 w [r]:=
 ⟨H.ch,by simpa using H.Gt i hi,by simpa using H.fp r (ω hi),Dc _ _⟩
theorem St.bN(H:St X w0 w L)(i j:Nat){r s:Rs}(hi:L[i]? =some r)(hj:L[j]? =some s)(hij:(i==j)=false):St X w0 w [r,s]:=
 ⟨H.ch,by simpa using⟨H.Gt i hi,H.Gt j hj⟩,by simpa using⟨H.fp r (ω hi),H.fp s (ω hj)⟩,by simpa using H.apart i j (by simpa using hij) hi hj⟩
theorem St.fJ(H:St X w0 w L)(i j k:Nat){r s u:Rs}(hi:L[i]? =some r)(hj:L[j]? =some s)(hk:L[k]? =some u)(hij:(i==j)=false)(hik:(i==k)=false)(hjk:(j==k)=false):St X w0 w [r,s,u]:=
 ⟨H.ch,by simpa using⟨H.Gt i hi,H.Gt j hj,H.Gt k hk⟩,by simpa using⟨H.fp r (ω hi),H.fp s (ω hj),H.fp u (ω hk)⟩,
  by simpa using⟨⟨H.apart i j (by simpa using hij) hi hj,H.apart i k (by simpa using hik) hi hk⟩,H.apart j k (by simpa using hjk) hj hk⟩⟩
def Bd(P:Program)(T:TypeId)(cs:Array Value)(pl:List (Nat×Nat)):Prop:=
 ∃fs v,P.underlying T=some (.struct fs)∧(P.info? T).bind (·.zero)=some v∧v.cells=cs∧∀w,(fs.mapM fun f=>do pure (f.offset,←sizeOf f.type):Sem _).run P w= .ok pl.toArray w
theorem cf{parts:Array (Nat×Operand)}{cs0:Array Value}{pl:List (Nat×Nat)}{cs:List Value}(hB:Bd P T cs0 pl)(hf:Instr.fill (pl[·]?) cs0 (parts.toList.map fun p=>(p.1,ev t p.2))=some cs.toArray):
 Rv P ⟨d,.build T parts,ty,ps,af,g⟩ t w (.agg cs.toArray):=by
 obtain⟨fs,v,h1,h2,h3,h4⟩:=hB
 unfold Rv
 cases hi:P.info? T with
 |none=>simp[hi]at h2
 |some i=>
  have hz:i.zero=some v:=by simpa [hi] using h2
  have hzv:(zeroValue T).run P w= .ok v w:=by simp[zeroValue,typeInfo,hi,hz]
  have e:(Array.map (fun x=>match x with|(i,x)=>(i,ev t x)) parts).toList=parts.toList.map fun p=>(p.1,ev t p.2):=j_
  have hfl:Instr.fill (fun j=>(pl.toArray)[j]?) v.cells (Array.map (fun x=>match x with|(i,x)=>(i,ev t x)) parts).toList=some cs.toArray:=by
   rw[e,h3];simpa using hf
  simp only[execOp,Instr.build,Sem.run_bind,hzv,Result.andThen_ok,run_underlying h1,h4 w,hfl]
  rfl
end
def EE(P:Program)(w:World)(t:Fr):ResultVar→Value→Prop
 | .tmp i,v=>ev t (.tmp i)=v
 | .cell a T,v=>∃p,ev t (.tmp a)= .pointer (some p)∧(loadVar T p).run P w= .ok v w
def j8(P:Program)(w:World)(t:Fr):List ResultVar→List Value→Prop
 | [],[]=>True
 |r::rs,v::vs=>EE P w t r v∧j8 P w t rs vs
 |_,_=>False
def CX:List Value→Value
 | [v]=>v
 |vs=> .tuple vs.toArray
def CW(a:Act):ResultVar→Sem Value
 | .tmp t=>pure (a.tmps.getD t undef)
 | .cell p T=>do loadVar T (←asAddr (a.tmps.getD p undef))
theorem Dd{P:Program}{N:Nat}{w:World}{t:Fr}(a:Act)(ha:Fm N t a):∀(rs:List ResultVar)(vs:List Value),j8 P w t rs vs→
 (rs.mapM (CW a)).run P w= .ok vs w
 | [],[],_=>j_
 | [],_::_,h=>h.elim
 |_::_,[],h=>h.elim
 |r::rs,v::vs,⟨h1,h2⟩=>by
  have ih:=Dd a ha rs vs h2
  rw[List.mapM_cons,Sem.run_bind]
  cases r with
  |tmp i=>
   have h1':ev t (.tmp i)=v:=h1
   have hg:a.tmps.getD i undef=ev t (.tmp i):=ZM
   show((pure (a.tmps.getD i undef):Sem Value).run P w).andThen _=_
   rw[hg,h1']
   simp only[Sem.run_pure,Result.andThen_ok,Sem.run_bind,ih]
  |cell p T=>
   obtain⟨q,e1,hl⟩:=h1
   show((do loadVar T (←asAddr (a.tmps.getD p undef)):Sem Value).run P w).andThen _=_
   have hg:a.tmps.getD p undef=ev t (.tmp p):=ZM
   rw[hg,e1]
   simp only[asAddr,Sem.run_bind,Sem.run_pure,Result.andThen_ok,hl,ih]
theorem aB{P:Program}{N:Nat}{w:World}{t:Fr}{fn:Func}{rs:List ResultVar}{vs:List Value}(hf:fn.results=rs.toArray)(h:j8 P w t rs vs)(a:Act)(ha:Fm N t a):(results fn a.tmps).run P w= .ok (CX vs) w:=by
 have h1:=Dd a ha rs vs h
 have e:results fn a.tmps=(do let vs←fn.results.mapM (CW a);pure (if h:vs.size=1 then vs[0]else .tuple vs)):=by
  unfold results
  congr 1
 rw[e,hf,Sem.run_bind,List.mapM_toArray,map_eq_pure_bind,Sem.run_bind,h1]
 simp only[Result.andThen_ok,Sem.run_pure]
 match vs with
 | []=>rfl
 | [v]=>rfl
 |v::u::vs=>rfl
section
variable{P:Program}{ρ:Option Nat}{N:Nat}{Q:Exit→Fr→World→Prop}{t:Fr}{w:World}
theorem ai:j8 P w t [] []:=trivial
theorem ad{i:Nat}{rs:List ResultVar}{vs:List Value}(h:j8 P w t rs vs):j8 P w t (.tmp i::rs) (ev t (.tmp i)::vs):=⟨rfl,h⟩
theorem dL{a T b o n:Nat}{cs:List Value}{rs:List ResultVar}{vs:List Value}(hx:ev t (.tmp a)= .pointer (some ⟨b,o,none⟩))(hT:Ag P T n)(hr:w.rangeAt b o cs)(hn:cs.length=n)(h:j8 P w t rs vs):j8 P w t (.cell a T::rs) (.agg cs.toArray::vs):=
 ⟨⟨⟨b,o,none⟩,hx,by obtain⟨D,e2,e3,e4⟩:=hn▸hT;exact run_loadVar_mid (P:=P) w b o T cs D hr e2 e3 e4⟩,h⟩
theorem Df{a T:Nat}{p:Addr}{v:Value}{rs:List ResultVar}{vs:List Value}(hx:ev t (.tmp a)= .pointer (some p))(hT:Sc P T)(hc:w.cell? p=some v)(h:j8 P w t rs vs):j8 P w t (.cell a T::rs) (v::vs):=by
 obtain⟨D,h1,h2⟩:=hT
 refine⟨⟨p,hx,?_⟩,h⟩
 have hagg:(isAgg T).run P w= .ok false w:=by
  unfold isAgg
  rw[Sem.run_bind,run_underlying h1 w]
  cases D<;>simp_all
 simp[loadVar,Sem.run_bind,hagg,hc]
section
variable{d:Option Nat}{ty:TypeId}{ps:String}{af:Array Edge}{g:Option (Nat×Bool)}{x y:Operand}{v:Value}
theorem mv(v:Value)(h:ev t x=v):Rv P ⟨d,.move x,ty,ps,af,g⟩ t w v:=h▸cz
theorem sg(v:Value)(h:ev t x=v):Rv P ⟨d,.assign x,ty,ps,af,g⟩ t w v:=h▸N6
theorem pT{c:Operand}{b:Bool}(v:Value)(h:ev t x=v)(hc:ev t c= .bool b)(hb:b=true):Rv P ⟨d,.pick c x y,ty,ps,af,g⟩ t w v:=h▸OH hc hb
theorem pF{c:Operand}{b:Bool}(v:Value)(h:ev t y=v)(hc:ev t c= .bool b)(hb:b=false):Rv P ⟨d,.pick c x y,ty,ps,af,g⟩ t w v:=h▸OG hc hb
end
theorem v_{ops:Array Oper}{d:Nat}{op:Op}{ty:TypeId}{ps:String}{af:Array Edge}{rest:List Oper}{v:Value}(hd:Nat.blt d N=true)(hr:Rv P ⟨some d,op,ty,ps,af,none⟩ t w v)(h:Wl P ρ N ops Q rest (upd t d v) w):Wl P ρ N ops Q (⟨some d,op,ty,ps,af,none⟩::rest) t w:=QF rfl hd hr h
theorem MR{ops:Array Oper}{d:Nat}{op:Op}{ty:TypeId}{ps:String}{af:Array Edge}{j:Nat}{b c:Bool}{rest:List Oper}{v:Value}(hcb:c=b)(hy:yd ops t j=some c)(hd:Nat.blt d N=true)(hr:Rv P ⟨some d,op,ty,ps,af,some (j,b)⟩ t w v)(h:Wl P ρ N ops Q rest (upd t d v) w):Wl P ρ N ops Q (⟨some d,op,ty,ps,af,some (j,b)⟩::rest) t w:=QE hy hcb hd hr h
theorem MQ{ops:Array Oper}{d:Nat}{op:Op}{ty:TypeId}{ps:String}{af:Array Edge}{j:Nat}{b c c':Bool}{rest:List Oper}(hcc:c'=c)(hy:yd ops t j=some c')(hbc:(c==b)=false)(hd:Nat.blt d N=true)(h:Wl P ρ N ops Q rest (upd t d undef) w):Wl P ρ N ops Q (⟨some d,op,ty,ps,af,some (j,b)⟩::rest) t w:=QD hy hcc hbc hd h
theorem e_{ops:Array Oper}{d:Nat}{op:Op}{ty:TypeId}{ps:String}{af:Array Edge}{rest:List Oper}(hd:Nat.blt d N=true)(h:Yd P ρ N ⟨some d,op,ty,ps,af,none⟩ t w fun v w'=>Wl P ρ N ops Q rest (upd t d v) w'):Wl P ρ N ops Q (⟨some d,op,ty,ps,af,none⟩::rest) t w:=xS rfl hd h
theorem s_{ops:Array Oper}{op:Op}{ty:TypeId}{ps:String}{af:Array Edge}{rest:List Oper}(h:Yd P ρ N ⟨none,op,ty,ps,af,none⟩ t w fun _ w'=>Wl P ρ N ops Q rest t w'):Wl P ρ N ops Q (⟨none,op,ty,ps,af,none⟩::rest) t w:=xS rfl rfl h
theorem rg{id:Nat}{l:List Oper}{c:Code}(h:Wl P ρ N l.toArray (lg (fun t w=>Wc P ρ N Q c t w) Q) l t w):Wc P ρ N Q (.seq (.region id l.toArray false) c) t w:=ae (aH h)
theorem nl{nx:Fr→World→Prop}{ops:Array Oper}(h:nx t w):Wl P ρ N ops (lg nx Q) [] t w:=aK h
end
section
variable{P:Program}{ρ:Option Nat}{N:Nat}{Q:Exit→Fr→World→Prop}{t:Fr}{w w0:World}{X:Nat→Prop}{L M:List Rs}{R:Value→World→Prop}{d:Option Nat}{ty T T':TypeId}{ps:String}{af:Array Edge}{g:Option (Nat×Bool)}{x y:Operand}{α:Type}
theorem u4{f:FuncId}{n:Nat}{fn:Func}{c:Code}{vs:List Value}(h1:P.funcs[f]? =some fn)(h2:fn.body=some c)(h3:fn.ntmps=n)(h4:vs.length≤n)(hs:Nat.ble n 1000000=true)(h:Wc P none n (nq P n fn R) c (t0 vs) w):Calls P f vs.toArray w fun e w'=>∃v,e= .returned v∧R v w':=
 aP h1 h2 h3 h4 (xQ h fun _ _ _ ⟨a,v,b⟩=>⟨a,v,uE (fun _ ⟨c,d⟩=>⟨c,v,rfl,d⟩) _ _ b⟩) hs
theorem cm{f:FuncId}{fn:Func}{c:Code}{xs:Array Operand}{Rn:Array TypeId}(n:Nat)(vs:List Value)(hf:En P f)(h1:P.funcs[f]? =some fn)(h2:fn.body=some c)(h3:fn.ntmps=n)(h4:Nat.ble vs.length n=true)(hv:xs.toList.map (ev t)=vs)(h:Wc P none n (nq P n fn R) c (t0 vs) w)(hs:Nat.ble n 1000000=true:=by rfl):Yd P ρ N ⟨d,.call ⟨.value (.func f),xs,Rn⟩,ty,ps,af,g⟩ t w R:=
 au hf hv (u4 h1 h2 h3 (Nat.le_of_ble_eq_true h4) hs h)
theorem kK{f:FuncId}{fn:Func}{c:Code}{xs:Array Operand}{Rn:Array TypeId}{cap:Array Value}(n:Nat)(vs:List Value)(hx:ev t x= .func (.func f) #[] cap)(hf:En P f)(h1:P.funcs[f]? =some fn)(h2:fn.body=some c)(h3:fn.ntmps=n)(h4:Nat.ble vs.length n=true)(hv:xs.toList.map (ev t)++cap.toList=vs)(h:Wc P none n (nq P n fn R) c (t0 vs) w)(hs:Nat.ble n 1000000=true:=by rfl):Yd P ρ N ⟨d,.call ⟨.value x,xs,Rn⟩,ty,ps,af,g⟩ t w R:=
 kZ hx hf hv (u4 h1 h2 h3 (Nat.le_of_ble_eq_true h4) hs h)
theorem cA{c c':Code}(I:Fr→World→Prop)(h1:Wc P ρ N (lg I Q) c t w)(h2:∀t w,I t w→Wc P ρ N Q c' t w):Wc P ρ N Q (.seq c c') t w:=
 ae (xQ h1 fun e t w h=>by cases e<;>first|exact h|exact h2 t w h)
theorem fZ{o:Oper}(J:Value→World→Prop)(h1:Yd P ρ N o t w J)(h2:∀v w',J v w'→R v w'):Yd P ρ N o t w R:=h1.mono h2
def Wu(P:Program)(ρ:Option Nat)(N:Nat)(Q:Exit→Fr→World→Prop)(c:Code)(t:Fr)(w:World):Prop:=
 ∀a,Fm N t a→∀b kk cs,b.roundOf=ρ→∃e a' w',(∃t',Fm N t' a'∧NP e∧Q e t' w')∧ArrivesIn (Machine.fenced P (Fw ρ)) P (lone (b.atR a (.code c:: .inLoop c::kk)) cs w) b kk cs e a' w'
theorem se{c:Code}(h:Wu P ρ N Q c t w):Wc P ρ N Q (.loop c) t w:=by
 intro a ha b kk cs hro hb hr
 obtain⟨e,a',w',hq,harr⟩:=h a ha b kk cs hro
 exact⟨e,a',w',hq,.of_steps (.one (fenced_calm hb hr rfl) stepR_loop) harr⟩
theorem wu{c:Code}(h:Wc P ρ N (lg (fun t w=>Wu P ρ N Q c t w) Q) c t w):Wu P ρ N Q c t w:=by
 intro a ha b kk cs hro
 have hb:(Fw ρ).fn b.fn:=trivial
 have hr:(Fw ρ).room (cs.length+1+0):=IV _ _
 obtain⟨e,a₁,w₁,⟨t₁,f₁,np,hq⟩,harr⟩:=h a ha b (.inLoop c::kk) cs hro hb hr
 cases e with
 |normal=>
  obtain⟨e₂,a₂,w₂,hq₂,harr₂⟩:=hq a₁ f₁ b kk cs hro
  exact⟨e₂,a₂,w₂,hq₂,.of_steps (StepsIn.trans harr (.one (fenced_calm hb hr rfl) stepR_inLoop)) harr₂⟩
 |exit id=>exact⟨_,a₁,w₁,⟨t₁,f₁,np,hq⟩,.pass (x:= .inLoop c) rfl (fun _ _=> .inl j_) harr⟩
 |goto l=>exact⟨_,a₁,w₁,⟨t₁,f₁,np,hq⟩,.pass (x:= .inLoop c) rfl (fun _ _=> .inl j_) harr⟩
 |ret=>exact⟨_,a₁,w₁,⟨t₁,f₁,np,hq⟩,.pass (x:= .inLoop c) rfl (fun _ _=> .inl j_) harr⟩
 |panic ch=>exact⟨_,a₁,w₁,⟨t₁,f₁,np,hq⟩,.pass (x:= .inLoop c) rfl (fun _ _=> .inl j_) harr⟩
 |outgrown=>exact⟨_,a₁,w₁,⟨t₁,f₁,np,hq⟩,.pass (x:= .inLoop c) rfl (fun _ _=> .inl j_) harr⟩
theorem bJ{o:Oper}{v v':Value}(h:Rv P o t w v)(e:v=v'):Rv P o t w v':=e▸h
def uP(t:Fr)(sz:Nat):Nat→List (Nat×Operand)→List Value→Prop
 |_,[],[]=>True
 |i,(j,x)::ps,cs=>j=i∧(ev t x).cells=(cs.take sz).toArray∧(cs.take sz).length=sz∧uP t sz (i+1) ps (cs.drop sz)
 |_,_,_=>False
theorem zY(t:Fr)(sz:Nat):∀(ps:List (Nat×Operand))(l:List Value)(i:Nat)(cs:Array Value),uP t sz i ps l→cs.size=i*sz+l.length→
 Instr.fill (fun i=>some (i*sz,sz)) cs (ps.map fun p=>(p.1,ev t p.2))=some ((cs.toList.take (i*sz)++l).toArray)
 | [],[],i,cs,_,hs=>by
  simp only[rW,Instr.fill,Ll]
  apply EZ
  simp only[N_,Gy]at hs
  simp[D_ (by simp;omega:cs.toList.length≤i*sz)]
 | [],_::_,_,_,h,_=>h.elim
 |(j,x)::ps,l,i,cs,⟨h1,h2,h4,h3⟩,hs=>by
  subst h1
  have hz:(ev t x).cells.size=sz:=by rw[h2];simpa using h4
  have hl:sz≤l.length:=by rw[ζ]at h4;omega
  simp only[ι,Instr.fill]
  rw[I_ ZT]
  have key:=xy (j*sz) (l.take sz) 0 cs (by rw[h4];omega)
  have e1:(Array.foldl (fun cs x=>match x with|(c,j_1)=>cs.setIfInBounds (j*sz+j_1) c) cs (ev t x).cells.zipIdx)=(cs.toList.take (j*sz)++l.take sz++cs.toList.drop (j*sz+sz)).toArray:=by
   apply EZ
   rw[h2]
   have:(l.take sz).toArray.zipIdx=((l.take sz).zipIdx).toArray:=j_
   rw[this,aaD]
   simpa [h4] using key
  have hj:(j+1)*sz=j*sz+sz:=O_
  rw[e1,zY t sz ps (l.drop sz) (j+1) _ h3 (by simp;rw[hj];omega)]
  congr 1
  rw[hj]
  apply EZ
  rw[Lj l_,D_ l_]
  simp
theorem oO{E by_ n sz:Nat}{zz:Value}{parts:Array (Nat×Operand)}{l:List Value}(hT:Sl P T E sz by_ zz)(H:St X w0 w L)(hn:l.length=n*sz)(hle:n*sz≤16777216)(hf:uP t sz 0 parts.toList l)(hn0:0<n)(h:∀b w',St X w0 w' (L++[.blk b l.toArray E])→R (.slice (some ⟨b,0,none⟩) n n) w'):Yd P ρ N ⟨d,.buildSlice T n parts,ty,ps,af,g⟩ t w R:=by
 obtain⟨t1,i,t2,t3,t4,t5,t6,t7⟩:=hT
 have hne:¬(n*sz=0):=by
  intro h0;rcases Nat.mul_eq_zero.1 h0 with h0|h0<;>omega
 have hf':=zY t sz parts.toList l 0 ((Array.range (n*sz)).map (zz.cells[·%zz.cells.size]!)) hf (by simp[hn])
 simp only[ND,bP,ψ]at hf'
 have hrun:(Instr.buildSlice T n (parts.map fun(i,x)=>(i,ev t x))).run P w= .ok (.slice (some ⟨w.heap.size,0,none⟩) n n) (w.alloc (.cells l.toArray E)):=by
  unfold Instr.buildSlice
  have hle':¬(16777216<n*sz):=a_
  simp only[Sem.run_bind,run_underlying t1,Result.andThen_ok]
  simp[sizeOf,typeInfo,t2,t3,hle',hne,zeroValue,t5]
  have hf'':Instr.fill (fun i=>some (i*sz,sz)) ((Array.range (n*sz)).map (zz.cells[·%zz.cells.size]!)) (parts.map fun(i,x)=>(i,ev t x)).toList=some l.toArray:=by
   rw[←hf'];congr 1;simp
  simp only[Array.toList_map]at hf''
  unfold Value.cells at hf''
  simp[hf'',newRow,go_sem]
 refine eD (v:= .slice (some ⟨w.heap.size,0,none⟩) n n) (w':=w.alloc (.cells l.toArray E)) ?_ (h _ _ (H.box _ _))
 simp only[execOp,Sem.run_bind,hrun];rfl
variable{dd:Nat}{xs ys:Array Value}{f:Field}{fs:List Field}{a b:Value}{r s:Bool}
end
section
variable{P:Program}{ρ:Option Nat}{N:Nat}{t:Fr}{w w0:World}{X:Nat→Prop}{L:List Rs}{R:Value→World→Prop}{d:Option Nat}{ty T:TypeId}{ps:String}{af:Array Edge}{g:Option (Nat×Bool)}{x y:Operand}{α:Type}
theorem uN{κ:Kd α}{l:List (List α)}{v:Value}{i:Int}(hT:Sc P T)(H:St X w0 w L)(h:Rd (.sl κ) w0 (Ol X w0) v l)(h0:0≤i)(h1:i<l.length)(hx:ev t x= .pointer (eo v (i.toNat*1)))(hR:∀u,Rd κ w0 (Ol X w0) u (at_ [] l i)→R u w):Yd P ρ N ⟨d,.load T x,ty,ps,af,g⟩ t w R:=by
 obtain⟨p,c,e1,h3,h4,h5⟩:=h
 have hg:=ga [] h0 h1
 rcases h5 with⟨h5,_⟩|⟨b,o,h5,h6,h7⟩
 ·subst h5;simp at h1;omega
 subst e1;subst h5
 obtain⟨cs,⟨u,hk,hu⟩,hr⟩:=h7 _ _ hg
 subst hk
 exact eD (av hT hx (CM (H.ch.block b h6.1 h6.2) hr 0 u rfl)) (hR u hu)
theorem uA:∀(vs:List Value)(o:Nat)(cs:Array Value),o+vs.length≤cs.size→(kD cs o vs).toList=cs.toList.take o++vs++cs.toList.drop (o+vs.length)
 | [],o,cs,_=>by simp[kD]
 |v::vs,o,cs,h=>by
  simp only[r_]at h
  rw[kD,uA vs (o+1) _ l_]
  simp only[r_]
  rw[List.take_set,List.drop_set,M_ a_]
  rw[y_ l_,DZ _ _ l_]
  have h2:o-(List.take o cs.toList).length=0:=l_
  rw[h2,show o+1+vs.length=o+(vs.length+1) by omega]
  simp
theorem Dh:∀(vs:List Value)(o:Nat)(cs:Array Value),(kD cs o vs).size=cs.size
 | [],_,_=>rfl
 |v::vs,o,cs=>by rw[kD,Dh vs];simp
end
section
variable{P:Program}{ρ:Option Nat}{N:Nat}{Q:Exit→Fr→World→Prop}{t:Fr}{w:World}
theorem Rf{ops:Array Oper}{a:Act}(ha:Fm N t a){j:Nat}(h:yd ops t j=none):yielded ops a.tmps j=none:=by
 unfold yd at h;unfold yielded
 cases hd:(ops[j]?).bind (·.dst)with
 |none=>simp
 |some d=>
  rw[hd]at h
  simp only[aJ]at h⊢
  have hg:a.tmps.getD d undef=ev t (.tmp d):=ZM
  rw[LG]at hg
  cases hq:a.tmps[d]? with
  |none=>rfl
  |some v=>rw[hq]at hg;simp only[Ld]at hg;rw[hg];revert h;cases ev t (.tmp d)<;>simp
theorem Rm{ops:Array Oper}{S:World→Prop}{ds:List Nat}{n:Nat}{l l':Array Bool}{i j:Nat}{o:Oper}{b:Bool}(hi:ops[i]? =some o)(hg:o.guard=some (j,b))(hy:yd ops t j=none)(hd:ok N o.dst=true)(hc:kF ops ds l l' i=true)(hS:S w)(h:Wa P ρ N ops Q S ds n l' (cP t o.dst undef) w):Wa P ρ N ops Q S ds (n+1) l t w:=by
 simp only[kF,S_,Nz]at hc
 obtain⟨⟨⟨⟨⟨hnd,h1⟩,h0⟩,h2⟩,h3⟩,h4⟩:=hc
 intro a ha
 refine uH hi h1 hnd (uG h0) h2 h3 (fun c _ _ h=>h.elim fun _ h=>(h.2.1 c rfl).elim) (.inr ⟨by simp[Region.wanted,hg,Rf ha hy],rfl⟩) hS ?_
 rw[h4]
 exact h _ (ha.put hd undef)
end
section
variable{P:Program}{ρ:Option Nat}{N:Nat}{Q:Exit→Fr→World→Prop}{t:Fr}{w:World}
theorem Qy{ops:Array Oper}{S:World→Prop}{ds:List Nat}{n:Nat}{l l':Array Bool}{i j:Nat}{o:Oper}{b c:Bool}(hi:ops[i]? =some o)(hg:o.guard=some (j,b))(hy':yd ops t j=some c)(hcb:c=b)(hd:ok N o.dst=true)(hc:((Region.ready .any ops l==[i])&&(l.setIfInBounds i true==l'))=true)(h:Yd P ρ N o t w fun v w'=>(i ∉ ds→S w')∧Wa P ρ N ops Q S ds n l' (cP t o.dst v) w'):Wa P ρ N ops Q S ds (n+1) l t w:=by
 have hy:yd ops t j=some b:=hcb▸hy'
 simp only[S_,Nz]at hc
 obtain⟨h1,h2⟩:=hc
 intro a ha
 refine⟨fun h0=>aaM,fun k hk=>?_⟩
 rw[h1,Q_]at hk
 subst hk
 have hw:Region.wanted o (yielded ops a.tmps)=true:=by simp[Region.wanted,hg,sf ha hy]
 unfold wpOpIn
 simp only[hi,hw,Nw]
 refine h a ha _ _ fun v w' ⟨s,r⟩=>⟨s,?_⟩
 rw[h2]
 exact r _ (ha.put hd v)
end
section
variable{P:Program}{ρ:Option Nat}{N:Nat}{t:Fr}{w:World}{d:Option Nat}{ty T:TypeId}{ps:String}{af:Array Edge}{g:Option (Nat×Bool)}
theorem dt{fn:Fn}{ys:Array Operand}(us:List Value)(hy:ys.toList.map (ev t)=us):Rv P ⟨d,.makeFunc fn #[] ys,ty,ps,af,g⟩ t w (.func fn #[] us.toArray):=
 OE j_ (by subst hy;apply EZ;simp)
theorem ba{fn:Func}{rs:List ResultVar}{vs:List Value}{v:Value}(hf:fn.results=rs.toArray)(h:j8 P w t rs vs)(hv:CX vs=v)(a:Act)(ha:Fm N t a):(results fn a.tmps).run P w= .ok v w:=
 hv▸aB hf h a ha
end
def bm.fn:bm Nat:=⟨1,fun n=> [.func (.func n) #[] #[]],fun _=>rfl,fun a v h=>Np⟩
section
variable{P:Program}{ρ:Option Nat}{N:Nat}{Q:Exit→Fr→World→Prop}{t:Fr}{w:World}
variable{ops:Array Oper}{d:Nat}{op:Op}{ty:TypeId}{ps:String}{af:Array Edge}{rest:List Oper}{v:Value}{x:Operand}{j:Nat}{b c c':Bool}
theorem vr(hr:Rv P ⟨some d,op,ty,ps,af,none⟩ t w v)(h:Wl P ρ N ops Q rest (upd t d v) w)(hd:Nat.blt d N=true:=by exact rfl):Wl P ρ N ops Q (⟨some d,op,ty,ps,af,none⟩::rest) t w:=v_ hd hr h
theorem vm(v:Value)(h:Wl P ρ N ops Q rest (upd t d v) w)(hd:Nat.blt d N=true:=by exact rfl)(e:ev t x=v:=by exact rfl):Wl P ρ N ops Q (⟨some d,.move x,ty,ps,af,none⟩::rest) t w:=v_ hd (mv v e) h
theorem va(v:Value)(h:Wl P ρ N ops Q rest (upd t d v) w)(hd:Nat.blt d N=true:=by exact rfl)(e:ev t x=v:=by exact rfl):Wl P ρ N ops Q (⟨some d,.assign x,ty,ps,af,none⟩::rest) t w:=v_ hd (sg v e) h
theorem ye(h:Yd P ρ N ⟨some d,op,ty,ps,af,none⟩ t w fun v w'=>Wl P ρ N ops Q rest (upd t d v) w')(hd:Nat.blt d N=true:=by exact rfl):Wl P ρ N ops Q (⟨some d,op,ty,ps,af,none⟩::rest) t w:=e_ hd h
theorem oo(hcb:c=b)(hy:yd ops t j=some c)(hr:Rv P ⟨some d,op,ty,ps,af,some (j,b)⟩ t w v)(h:Wl P ρ N ops Q rest (upd t d v) w)(hd:Nat.blt d N=true:=by exact rfl):Wl P ρ N ops Q (⟨some d,op,ty,ps,af,some (j,b)⟩::rest) t w:=MR hcb hy hd hr h
theorem ow(hcc:c'=c)(hy:yd ops t j=some c')(h:Wl P ρ N ops Q rest (upd t d undef) w)(hbc:(c==b)=false:=by exact rfl)(hd:Nat.blt d N=true:=by exact rfl):Wl P ρ N ops Q (⟨some d,op,ty,ps,af,some (j,b)⟩::rest) t w:=MQ hcc hy hbc hd h
end
section
variable{P:Program}{ρ:Option Nat}{N:Nat}{Q:Exit→Fr→World→Prop}{t:Fr}{w:World}
variable{ops:Array Oper}{S:World→Prop}{ds:List Nat}{n:Nat}{l:Array Bool}{o:Oper}{v:Value}
def tv(N:Nat)(ops:Array Oper)(i:Nat):Bool:=match ops[i]? with|some o=>o.guard.isNone&&ok N o.dst|none=>false
def tw(N:Nat)(ops:Array Oper)(i:Nat):Bool:=match ops[i]? with|some o=>ok N o.dst|none=>false
theorem AX{i:Nat}(hi:ops[i]? =some o)(h:tv N ops i=true):o.guard=none∧ok N o.dst=true:=by
 unfold tv at h;rw[hi]at h
 simp only[S_,Option.isNone_iff_eq_none]at h;exact h
theorem vP{i:Nat}(hi:ops[i]? =some o)(h:tw N ops i=true):ok N o.dst=true:=by
 unfold tw at h;rw[hi]at h;exact h
def xM(N:Nat)(ops:Array Oper)(ds:List Nat)(l:Array Bool)(i:Nat):Bool:=tv N ops i&&kF ops ds l (l.setIfInBounds i true) i
def Dx(N:Nat)(ops:Array Oper)(ds:List Nat)(l:Array Bool)(i:Nat):Bool:=tw N ops i&&kF ops ds l (l.setIfInBounds i true) i
def Dy(N:Nat)(ops:Array Oper)(l:Array Bool)(i:Nat):Bool:=tv N ops i&&(Region.ready .any ops l==[i])
def Qi(N:Nat)(ops:Array Oper)(l:Array Bool)(i:Nat):Bool:=tw N ops i&&(Region.ready .any ops l==[i])
theorem wz(i:Nat)(hi:ops[i]? =some o)(hS:S w)(hr:∀w,S w→(execOp (ev t) o).run P w= .ok (.value v) w)(h:Wa P ρ N ops Q S ds n (l.setIfInBounds i true) (cP t o.dst v) w)(hc:xM N ops ds l i=true:=by kernel_rfl):Wa P ρ N ops Q S ds (n+1) l t w:=by
 obtain⟨h1,h2⟩:=(Bool.and_eq_true _ _).mp hc
 obtain⟨h3,h4⟩:=AX hi h1
 exact kI hi h3 h4 h2 hS hr h
theorem wg(i:Nat)(hi:ops[i]? =some o)(hS:S w)(hr:∀{w},Rv P o t w v)(h:Wa P ρ N ops Q S ds n (l.setIfInBounds i true) (cP t o.dst v) w)(hc:xM N ops ds l i=true:=by kernel_rfl):Wa P ρ N ops Q S ds (n+1) l t w:=
 wz i hi hS (fun _ _=>hr) h hc
theorem wm(i:Nat){d:Option Nat}{ty:TypeId}{ps:String}{af:Array Edge}{g:Option (Nat×Bool)}{x:Operand}(hi:ops[i]? =some ⟨d,.move x,ty,ps,af,g⟩)(hS:S w)(v:Value)(h:Wa P ρ N ops Q S ds n (l.setIfInBounds i true) (cP t (⟨d,.move x,ty,ps,af,g⟩:Oper).dst v) w)(hc:xM N ops ds l i=true:=by kernel_rfl)(e:ev t x=v:=by exact rfl):Wa P ρ N ops Q S ds (n+1) l t w:=
 wz i hi hS (fun _ _=>mv v e) h hc
theorem wn(i:Nat){j:Nat}{b c:Bool}(hi:ops[i]? =some o)(hg:o.guard=some (j,b))(hy':yd ops t j=some c)(hcb:c=b)(hS:S w)(hr:∀w,S w→(execOp (ev t) o).run P w= .ok (.value v) w)(h:Wa P ρ N ops Q S ds n (l.setIfInBounds i true) (cP t o.dst v) w)(hc:Dx N ops ds l i=true:=by kernel_rfl):Wa P ρ N ops Q S ds (n+1) l t w:=by
 obtain⟨h1,h2⟩:=(Bool.and_eq_true _ _).mp hc
 exact Qz hi hg hy' hcb (vP hi h1) h2 hS hr h
theorem wf(i:Nat){j:Nat}{b c c':Bool}(hi:ops[i]? =some o)(hg:o.guard=some (j,b))(hy':yd ops t j=some c')(hcc:c'=c)(hS:S w)(h:Wa P ρ N ops Q S ds n (l.setIfInBounds i true) (cP t o.dst undef) w)(hbc:(c==b)=false:=by exact rfl)(hc:Dx N ops ds l i=true:=by kernel_rfl):Wa P ρ N ops Q S ds (n+1) l t w:=by
 obtain⟨h1,h2⟩:=(Bool.and_eq_true _ _).mp hc
 exact Qx hi hg hy' hcc hbc (vP hi h1) h2 hS h
theorem wo(i:Nat)(hi:ops[i]? =some o)(h:Yd P ρ N o t w fun v w'=>(i ∉ ds→S w')∧Wa P ρ N ops Q S ds n (l.setIfInBounds i true) (cP t o.dst v) w')(hc:Dy N ops l i=true:=by kernel_rfl):Wa P ρ N ops Q S ds (n+1) l t w:=by
 obtain⟨h1,h2⟩:=(Bool.and_eq_true _ _).mp hc
 obtain⟨h3,h4⟩:=AX hi h1
 exact nj hi h3 h4 (by rw[h2];exact beq_self_eq_true _) h
theorem wy(i:Nat)(hi:ops[i]? =some o)(hS:S w)(hr:(execOp (ev t) o).run P w= .ok (.value v) w)(h:Wa P ρ N ops Q S ds n (l.setIfInBounds i true) (cP t o.dst v) w)(hc:Dy N ops l i=true:=by kernel_rfl):Wa P ρ N ops Q S ds (n+1) l t w:=wo i hi (eD hr ⟨fun _=>hS,h⟩) hc
theorem wp(i:Nat){j:Nat}{b c:Bool}(hi:ops[i]? =some o)(hg:o.guard=some (j,b))(hy':yd ops t j=some c)(hcb:c=b)(h:Yd P ρ N o t w fun v w'=>(i ∉ ds→S w')∧Wa P ρ N ops Q S ds n (l.setIfInBounds i true) (cP t o.dst v) w')(hc:Qi N ops l i=true:=by kernel_rfl):Wa P ρ N ops Q S ds (n+1) l t w:=by
 obtain⟨h1,h2⟩:=(Bool.and_eq_true _ _).mp hc
 exact Qy hi hg hy' hcb (vP hi h1) (by rw[h2];simp) h
theorem wd(h:Q .normal t w)(hr:(Region.ready .any ops l==[])=true:=by kernel_rfl):Wa P ρ N ops Q S ds n l t w:=uF hr h
end
section
variable{P:Program}{ρ:Option Nat}{N:Nat}{d:Option Nat}{ty:TypeId}{ps:String}{af:Array Edge}{g:Option (Nat×Bool)}{t:Fr}{w:World}{R:Value→World→Prop}
variable{α β:Type}{o:Option α}{g':α→Option β}{r:β}{X:Nat→Prop}{w0:World}{L:List Rs}{f:FuncId}{xs:Array Operand}{ts:Array TypeId}{vs:List Value}
theorem E9{M:α→List Rs}{v:α→Value}(hf:En P f)(H:St X w0 w L)(E:o.bind g'=some r)(hc:∀x,o=some x→Calls P f vs.toArray w fun e w'=>e= .returned (v x)∧St no w w' (M x))(k:∀x,g' x=some r→∀w',St X w0 w' (L++M x)→R (v x) w')(hv:xs.toList.map (ev t)=vs:=by exact rfl):Yd P ρ N ⟨d,.call ⟨.value (.func f),xs,ts⟩,ty,ps,af,g⟩ t w R:=by
 obtain⟨x,E1,E⟩:=ay E
 refine au hf hv ((hc x E1).mono ?_)
 rintro _ w' ⟨rfl,K⟩
 exact⟨_,rfl,k x E w' (H.app K)⟩
theorem YM{M:α→Value→List Rs}{v:α→Value→Value}(hf:En P f)(H:St X w0 w L)(E:o.bind g'=some r)(hc:∀x,o=some x→Calls P f vs.toArray w fun e w'=>∃u,e= .returned (v x u)∧St no w w' (M x u))(k:∀x,g' x=some r→∀u w',St X w0 w' (L++M x u)→R (v x u) w')(hv:xs.toList.map (ev t)=vs:=by exact rfl):Yd P ρ N ⟨d,.call ⟨.value (.func f),xs,ts⟩,ty,ps,af,g⟩ t w R:=by
 obtain⟨x,E1,E⟩:=ay E
 refine au hf hv ((hc x E1).mono ?_)
 rintro _ w' ⟨u,rfl,K⟩
 exact⟨_,rfl,k x E u w' (H.app K)⟩
theorem YL{q:Rs}{q':α→Rs}{M:α→List Rs}{v:α→Value}(hf:En P f)(H:St X w0 w L)(i:Nat)(E:o.bind g'=some r)(hi:L[i]? =some q)(hc:∀x,o=some x→Calls P f vs.toArray w fun e w'=>e= .returned (v x)∧St q.fp w w' (q' x::M x))(k:∀x,g' x=some r→∀w',St X w0 w' (L.set i (q' x)++M x)→R (v x) w')(hv:xs.toList.map (ev t)=vs:=by exact rfl):Yd P ρ N ⟨d,.call ⟨.value (.func f),xs,ts⟩,ty,ps,af,g⟩ t w R:=by
 obtain⟨x,E1,E⟩:=ay E
 refine au hf hv ((hc x E1).mono ?_)
 rintro _ w' ⟨rfl,K⟩
 exact⟨_,rfl,k x E w' (H.aV i hi K)⟩
theorem YN{q:Rs}{q':α→Value→Rs}{M:α→Value→List Rs}{v:α→Value→Value}(hf:En P f)(H:St X w0 w L)(i:Nat)(E:o.bind g'=some r)(hi:L[i]? =some q)(hc:∀x,o=some x→Calls P f vs.toArray w fun e w'=>∃u,e= .returned (v x u)∧St q.fp w w' (q' x u::M x u))(k:∀x,g' x=some r→∀u w',St X w0 w' (L.set i (q' x u)++M x u)→R (v x u) w')(hv:xs.toList.map (ev t)=vs:=by exact rfl):Yd P ρ N ⟨d,.call ⟨.value (.func f),xs,ts⟩,ty,ps,af,g⟩ t w R:=by
 obtain⟨x,E1,E⟩:=ay E
 refine au hf hv ((hc x E1).mono ?_)
 rintro _ w' ⟨u,rfl,K⟩
 exact⟨_,rfl,k x E u w' (H.aV i hi K)⟩
end
theorem ks(kk:Nat):(∃k',kk=k'+1)∨kk=0:=by cases kk;exact .inr rfl;exact .inl ⟨_,rfl⟩
abbrev ii(x:Int):Value:= .int .i64 x
abbrev iu(x:Int):Value:= .int .u8 x
abbrev sn:Value:= .slice none 0 0
theorem aE{P:Program}{ρ:Option Nat}{N:Nat}{Q:Exit→Fr→World→Prop}{t:Fr}{w:World}{x:Operand}{c d:Code}{b:Bool}{α:Type}{X Y:Option α}{r:α}(E:(bif b then X else Y)=some r)(hx:ev t x= .bool b)(h1:b=true→X=some r→Wc P ρ N Q c t w)(h2:b=false→Y=some r→Wc P ρ N Q d t w):Wc P ρ N Q (.cond x c d) t w:=
 QA hx (fun e=>h1 e (iT e E)) (fun e=>h2 e (iF e E))
theorem qC(k:IntKind)(l:List Int):(bm.int k).all l=l.map (Value.int k):=by
 induction l with
 |nil=>rfl
 |cons x xs ih=>rw[ι,←ih];rfl
def Rs.mp(P:Program)(K b:Nat)(l:List Int):Rs where
 fp:=fun x=>x=b
 inv:=fun w=>∃n,w.ownsMap (H:=Unit) P K unitElem b n (Maps.setOf (.agg []) (l.map fun x=>Lit.int .i64 x))∧n≤l.length
 loc:=fun w w' h ⟨n,⟨es,clock,hb,r⟩,hn⟩=>⟨n,⟨es,clock,(h b rfl).trans hb,r⟩,hn⟩
 bd:=fun w ⟨n,h,_⟩ x e=>by subst e;exact h.lt
section
variable{P:Program}{ρ:Option Nat}{N:Nat}{Q:Exit→Fr→World→Prop}{t:Fr}{w w0:World}{X:Nat→Prop}{L:List Rs}{R:Value→World→Prop}{d:Option Nat}{ty T T' K E:TypeId}{ps:String}{af:Array Edge}{g:Option (Nat×Bool)}{x y z:Operand}
theorem Q6(H:St X w0 w L)(K:TypeId)(h:∀b w',St X w0 w' (L++[.mp P K b []])→R (.map (some b)) w'):Yd P ρ N ⟨d,.makeMap T none,ty,ps,af,g⟩ t w R:=
 eD (v:= .map (some w.heap.size)) (w':=w.alloc (.map #[] 0)) aa6
  (h _ _ (H.new (.alloc _ _ _) ⟨0,World.ownsMap_made w P K unitElem,aI _⟩ (fun b e=>by simp only[Rs.mp]at e;omega)))
theorem Wh{b:Nat}{w':World}(h:w.mapTurned w' b):Ch (fun x=>x=b) w w':=Ch.grown h.grown (fun k e=>by cases e;rfl)
theorem YH{b:Nat}{l:List Int}{a:Int}(hK:P.underlying K=some (.int .i64))(hT:P.underlying T=some (.map K E))(H:St X w0 w L)(q:Nat)(hq:L[q]? =some (.mp P K b l))(hx:ev t x= .map (some b))(hy:ev t y= .int .i64 a)(hz:ev t z= .agg #[])(h0: -9223372036854775808≤a)(h1:a≤9223372036854775807)(h2:l.length<maxLen)(h:∀w',St X w0 w' (L.set q (.mp P K b (l++[a])))→R undef w'):Yd P ρ N ⟨d,.mapUpdate T x y z,ty,ps,af,g⟩ t w R:=by
 obtain⟨n,hm,hn⟩:=H.Gt q hq
 have hw:(Lit.int .i64 a).wf=true:=O8
 obtain⟨w',hr,hm',ht⟩:=hm.store (Maps.int_keyed hK) hT a_ (Maps.keyOf_int_mk hK hw) (unitElem_mk (H:=Unit))
 refine uO (w':=w') ?_ (h _ (H.put q hq (Wh ht) ⟨n+1,?_,l_⟩ (fun _ e=> .inl e)))
 ·simp only[execOp,hx,hy,hz]
  show((do Instr.mapUpdate T (.map (some b)) (.int .i64 a) (.agg #[]);pure Next.skip):Sem Next).run P w=_
  rw[Sem.run_bind,hr];rfl
 rw[Fg,ι,rW,Maps.setOf_snoc];exact hm'
theorem XG{b:Nat}{l:List Int}{a:Int}(hK:P.underlying K=some (.int .i64))(hT:P.underlying T=some (.map K E))(hE:(P.info? E).bind (·.zero)=some (.agg #[]))(hm:(Rs.mp P K b l).inv w)(hx:ev t x= .map (some b))(hy:ev t y= .int .i64 a)(h0: -9223372036854775808≤a)(h1:a≤9223372036854775807):
 Rv P ⟨d,.lookup T x y true,ty,ps,af,g⟩ t w (.tuple #[.agg #[],.bool (l.any fun x=>decide (x=a))]):=by
 obtain⟨n,hm,hn⟩:=hm
 have hw:(Lit.int .i64 a).wf=true:=O8
 have hz:(zeroValue E).run P w= .ok (.agg #[]) w:=by
  cases hi:P.info? E with
  |none=>simp[hi]at hE
  |some i=>simp[hi]at hE;simp[zeroValue,typeInfo,hi,hE]
 obtain⟨v,ps',hr,hv⟩:=hm.look_ok (Maps.int_keyed hK) hT hz (unitElem_mk (H:=Unit)) (Maps.keyOf_int_mk hK hw)
 obtain⟨rfl,_⟩:=unitElem_inv hv
 rw[Maps.has_setOf _ _ _ (fun x hx=>by obtain⟨y,_,rfl⟩:=uV.1 hx;trivial)]at hr
 have hh:((l.map fun x=>Lit.int .i64 x).any fun x=>x.sameKey (.int .i64 a))=l.any fun x=>decide (x=a):=by
  rw[List.any_map];congr 1;funext x;simp[Lit.sameKey]
 rw[hh]at hr
 unfold Rv;simp only[execOp,hx,hy,Sem.run_bind,hr];rfl
theorem bw{p:Addr}(hx:ev t x= .pointer (some p)):Rv P ⟨d,.nilCheck x,ty,ps,af,g⟩ t w (.pointer (some p)):=by
 unfold Rv;simp only[execOp,hx];rfl
theorem QV{α:Type}{e:bm α}{by_:Nat}{zz:Value}(hT:Sl P T E e.sz by_ zz)(H:St X w0 w L)(h:∀v w',St X w0 w' (L++[.own e E v []])→R v w'):Yd P ρ N ⟨d,.buildSlice T 0 #[],ty,ps,af,g⟩ t w R:=by
 obtain⟨hu,i,hi,hs,_⟩:=hT
 refine eD (v:= .slice (some ⟨w.heap.size,0,none⟩) 0 0) (w':=w.alloc (.cells #[] E)) ?_ (h _ _ (H.new (.alloc _ _ _) ?_ (fun b e=>by simp only[Rs.own,Rs.row,Value.ownBlock,Ll]at e;omega)))
 ·simp[execOp,Instr.buildSlice,run_underlying hu,Sem.run_bind,sizeOf,typeInfo,hi,Instr.fill,newRow,go_sem]
 refine⟨PS,.inr ⟨w.heap.size,0,#[],rfl,jc _,?_,aI _,jc _,j_,PS⟩⟩
 show(w.heap.push _)[w.heap.size]? =_
 simp
theorem Pw(n:Nat){p:Option Addr}{a c:Nat}(hT:P.underlying T=some (.slice E)):(Op.equalIn (n+1) T (.slice p a c) (.slice none 0 0)).run P w= .ok p.isNone w:=by
 simp[Op.equalIn,run_underlying hT]
 cases p<;>rfl
theorem CJ{p:Option Addr}{n c:Nat}(hT:P.underlying T=some (.slice E))(hx:ev t x= .slice p n c)(hy:ev t y= .slice none 0 0):Rv P ⟨d,.binOp .eql T x y T',ty,ps,af,g⟩ t w (.bool p.isNone):=by
 have h1:(Op.equal T (.slice p n c) (.slice none 0 0)).run P w= .ok p.isNone w:=Pw (w:=w) 9999 hT
 unfold Rv;simp[execOp,hx,hy,eqGuard,binOp,Sem.run_bind,h1]
theorem bX{α:Type}{e:bm α}{v:Value}{l:List α}(h:(Rs.own e E v l).inv w):∃p n c,v= .slice p n c:=by
 rcases h.2 with⟨h,_⟩|⟨b,cap,cur,h,_⟩
 ·exact⟨_,_,_,h⟩
 exact⟨_,_,_,h⟩
theorem eO{α:Type}{κ:Kd α}{F:Nat→Prop}{v:Value}{l:List α}(h:Rd κ w F v l):∃p n c,v= .slice p n c:=by
 obtain⟨p,c,h,_⟩:=h
 exact⟨_,_,_,h⟩
def qy{α:Type}(κ:Kd α)(w:World)(F:Nat→Prop):List Value→List (List α)→Prop
 | [],[]=>True
 |v::vs,l::ls=>Rd κ w F v l∧qy κ w F vs ls
 |_,_=>False
theorem qy.get{α:Type}{κ:Kd α}{w:World}{F:Nat→Prop}:∀{vs:List Value}{ls:List (List α)},qy κ w F vs ls→∀{i:Nat}{l:List α},ls[i]? =some l→∃v,vs[i]? =some v∧Rd κ w F v l
 | [],[],_,i,l,h=>aS
 |v::vs,l'::ls,h,0,l,hi=>by simp at hi;subst hi;exact⟨v,rfl,h.1⟩
 |v::vs,l'::ls,h,i+1,l,hi=>by
  simp only[LW]at hi⊢
  exact qy.get h.2 hi
 | [],_::_,h,_,_,_=>h.elim
 |_::_,[],h,_,_,_=>h.elim
theorem OW{α:Type}{κ:Kd α}{b n:Nat}{cs:Array Value}{ls:List (List α)}(H:St X w0 w L)(q:Nat)(hq:L[q]? =some (.blk b cs T))(hn:ls.length=n)(hle:Nat.ble n 1000000=true)(h:qy κ w (Ol no w) cs.toList ls):
 Rd (.sl κ) w (Ol no w) (.slice (some ⟨b,0,none⟩) n n) ls:=by
 have hb:=H.Gt q hq
 have hle':=Z_ hle
 refine⟨_,n,by rw[hn],a_,u_,.inr ⟨b,0,rfl,⟨(Rs.blk b cs T).bd w hb b rfl,fun x=>x⟩,fun i x hx=>?_⟩⟩
 obtain⟨v,hv,hr⟩:=h.get hx
 refine⟨[v],⟨v,rfl,hr⟩,fun j u hj=>?_⟩
 match j with
 |0=>
  simp at hj
  subst hj
  have:cs[i]? =some v:=by rw[←hv];simp
  have e1:0+i*(Kd.sl κ).sz+0=i:=by show 0+i*1+0=i;omega
  rw[e1]
  exact ak hb this
 |j+1=>simp at hj
end
def Rs.obj(b:Nat)(o:Obj):Rs where
 fp:=fun x=>x=b
 inv:=fun w=>w.heap[b]? =some o
 loc:=fun w w' h hi=>(h b rfl).trans hi
 bd:=fun w h x e=>by subst e;exact(ER.1 h).1
section
variable{P:Program}{ρ:Option Nat}{N:Nat}{Q:Exit→Fr→World→Prop}{t:Fr}{w w0:World}{X:Nat→Prop}{L M:List Rs}{R:Value→World→Prop}{d:Option Nat}{ty T T':TypeId}{ps:String}{af:Array Edge}{g:Option (Nat×Bool)}{x y:Operand}
theorem St.obj(H:St X w0 w L)(o:Obj):St X w0 (w.alloc o) (L++[.obj w.heap.size o]):=
 H.new (.alloc _ _ _) FO (fun b e=>by simp only[Rs.obj]at e;omega)
theorem yU(w:World)(b:Nat)(o:Obj):Ch (fun x=>x=b) w (w.putObj b o):=
 ⟨rfl,rfl,rfl,j_,fun k _ hk=>World.putObj_heap_other hk⟩
theorem St.om(H:St X w0 w L)(q:Nat){b:Nat}{o:Obj}(hq:L[q]? =some (.obj b o))(o':Obj):St X w0 (w.putObj b o') (L.set q (.obj b o')):=
 H.put q hq (yU _ _ _) (World.putObj_heap_same ((Rs.obj b o).bd w (H.Gt q hq) b rfl)) (fun _ e=> .inl e)
structure Tm (N:Nat) (t:Fr) (tm:Array Value):Prop where
 small:N≤1000000
 size:tm.size=N
 get:∀i,Nat.beq i 1000000=false→tm.getD i undef=t i
theorem Fm.tm{a:Act}(h:Fm N t a):Tm N t a.tmps:=⟨h.small,h.size,h.get⟩
def xr(t:Fr)(ps:List Nat)(vs:List Value):Fr:=(ps.zip vs).foldl (fun t p=>upd t p.1 p.2) (upd t 1000000 undef)
theorem Pd{tm:Array Value}(hT:Tm N t tm):∀(ps:List Nat)(vs:List Value)(hp:ps.all (fun p=>Nat.blt p N)=true),
 Fm N (xr t ps vs) {tmps:=(ps.zip vs).foldl (fun tm p=>tm.setIfInBounds p.1 p.2) tm,defers:=[]}:=by
 have base:Fm N (upd t 1000000 undef) {tmps:=tm,defers:=[]}:=
  ⟨hT.small,by show []=marks (upd t 1000000 undef 1000000);rfl,hT.size,fun i hi=>by show tm.getD i undef=upd t 1000000 undef i;unfold upd;rw[hi];exact hT.get i hi⟩
 have key:∀(l:List (Nat×Value))(t:Fr)(tm:Array Value),(∀p∈l,p.1<N)→Fm N t {tmps:=tm,defers:=[]}→
  Fm N (l.foldl (fun t p=>upd t p.1 p.2) t) {tmps:=l.foldl (fun tm p=>tm.setIfInBounds p.1 p.2) tm,defers:=[]}:=by
  intro l
  induction l with
  |nil=>exact fun _ _ _ h=>h
  |cons p l ih=>
   intro t tm hp h
   exact ih _ _ (fun q hq=>hp q (o_ _ hq)) (h.put (d:=some p.1) (by simpa [ok,PR] using hp p H_) p.2)
 intro ps vs hp
 refine key _ _ _ (fun p h=>?_) base
 have h1:=List.of_mem_zip h
 have:=Y_.1 hp p.1 h1.1
 simpa [PR] using this
def RE(P:Program)(l:Nat)(R:Value→World→Prop):Exit→Fr→World→Prop
 | .normal,_,w=>∃r,w.heap[l]? =some (.loop r)∧R (.bool true) (w.putObj l (.loop {r with state:= .ready,pending:=none}))
 | .ret,_,w=>∃r,w.heap[l]? =some (.loop r)∧R (.bool false) (w.putObj l (.loop {r with state:= .done,pending:=some .ret}))
 | .exit i,_,w=>∃r,w.heap[l]? =some (.loop r)∧R (.bool false) (w.putObj l (.loop {r with state:= .done,pending:=some (.exit i)}))
 |_,_,_=>False
theorem OY{l:Nat}{r:Loop}(H:St X w0 w L)(q:Nat)(hq:L[q]? =some (.obj l (.loop r)))(h:∀w',St X w0 w' (L.set q (.obj l (.loop {r with state:= .ready,pending:=none})))→R (.bool true) w'):RE P l R .normal t w:=
 ⟨r,H.Gt q hq,h _ (H.om q hq _)⟩
theorem OZ{l:Nat}{r:Loop}(H:St X w0 w L)(q:Nat)(hq:L[q]? =some (.obj l (.loop r)))(h:∀w',St X w0 w' (L.set q (.obj l (.loop {r with state:= .done,pending:=some .ret})))→R (.bool false) w'):RE P l R .ret t w:=
 ⟨r,H.Gt q hq,h _ (H.om q hq _)⟩
theorem O0{l i:Nat}{r:Loop}(H:St X w0 w L)(q:Nat)(hq:L[q]? =some (.obj l (.loop r)))(h:∀w',St X w0 w' (L.set q (.obj l (.loop {r with state:= .done,pending:=some (.exit i)})))→R (.bool false) w'):RE P l R (.exit i) t w:=
 ⟨r,H.Gt q hq,h _ (H.om q hq _)⟩
def RB(P:Program)(l M:Nat)(R:Value→World→Prop)(body:Code):Exit→Fr→World→Prop
 | .normal,t,w=>∃r,w.heap[l]? =some (.loop r)∧r.state= .ready∧Wc P (some l) M (RE P l R) body t (w.putObj l (.loop {r with state:= .busy}))
 |_,_,_=>False
theorem OV{l M:Nat}{r:Loop}{body:Code}(H:St X w0 w L)(q:Nat)(hq:L[q]? =some (.obj l (.loop r)))(hr:r.state= .ready)(h:∀w',St X w0 w' (L.set q (.obj l (.loop {r with state:= .busy})))→Wc P (some l) M (RE P l R) body t w'):RB P l M R body .normal t w:=
 ⟨r,H.Gt q hq,hr,h _ (H.om q hq _)⟩
theorem Rg(tm:Array Value):∀(ps:List Nat)(vs:List Value),(ps.toArray.zip vs.toArray).foldl (fun tm (p:Nat×Value)=>tm.setIfInBounds p.1 p.2) tm=(ps.zip vs).foldl (fun tm p=>tm.setIfInBounds p.1 p.2) tm:=by
 intro ps vs
 rw[List.zip_toArray,aaD]
theorem PA{l:Nat}{r:Loop}{xs:Array Operand}{as_:Array TypeId}{vs:List Value}(hx:ev t x= .func (.yield l) #[] #[])(hv:xs.toList.map (ev t)=vs)(hl:w.heap[l]? =some (.loop r))(hs:vs.length=r.params.size):
 (execOp (ev t) ⟨d,.call ⟨.value x,xs,as_⟩,ty,ps,af,g⟩).run P w= .ok (.round l r.fn ((r.params.zip vs.toArray).foldl (fun tmps (t,a)=>tmps.setIfInBounds t a) r.tmps) r.assign r.body) w:=by
 have e1:xs.map (ev t)=vs.toArray:=Lc
 have hy:=run_yield (P:=P) (args:=vs.toArray) hl (by simpa using hs)
 simp only[execOp,Sem.run_bind]
 simp[resolve,hx,e1,invoke,hy,go_sem]
theorem Re{l M:Nat}{r:Loop}{xs:Array Operand}{as_:Array TypeId}{tr:Fr}(vs:List Value)(hx:ev t x= .func (.yield l) #[] #[])(hv:xs.toList.map (ev t)=vs)(H:St X w0 w L)(q:Nat)(hq:L[q]? =some (.obj l (.loop r)))(hT:Tm M tr r.tmps)(pl:List Nat)(hp:r.params=pl.toArray)(hs:vs.length=pl.length)(hlt:pl.all (fun p=>Nat.blt p M)=true)(h:Wc P (some l) M (RB P l M R r.body) r.assign (xr tr pl vs) w):Yd P ρ N ⟨d,.call ⟨.value x,xs,as_⟩,ty,ps,af,g⟩ t w R:=by
 intro a ha K QQ hk
 have hl:w.heap[l]? =some (.loop r):=H.Gt q hq
 refine⟨fun _ _=>trivial,?_⟩
 have hrun:=PA (P:=P) (d:=d) (ty:=ty) (ps:=ps) (af:=af) (g:=g) (as_:=as_) hx hv hl (by rw[hp,hs];simp)
 have:=rX (ρ:=ρ) hrun (fun d e=>ZB)
 show Oper.uponIn (Fw ρ) 0 P _ a K QQ ((Oper.semAt ρ a.eval _).run P w)
 rw[ha.eval,this]
 refine⟨(fun e=>ZB),?_⟩
 refine roundIn_of_wpIn trivial ?_
 rw[hp,Rg]
 have hfm:=Pd hT pl vs hlt
 have h':=h _ hfm
 refine Code.wpIn_mono ?_ h'
 rintro e a' w' ⟨t',f',np,hq'⟩
 cases e with
 |normal=>
  obtain⟨r',hl',hr',hb⟩:=hq'
  refine⟨_,run_beginRound hl' hr',?_⟩
  refine Code.wpIn_mono ?_ (hb a' f')
  rintro e2 a2 w2 ⟨t2,f2,np2,hre⟩
  cases e2 with
  |normal=>obtain⟨r2,hl2,hR⟩:=hre;exact⟨_,_,run_endRound none hl2,hk _ _ hR⟩
  |ret=>obtain⟨r2,hl2,hR⟩:=hre;exact⟨_,_,run_endRound (some .ret) hl2,hk _ _ hR⟩
  |exit i=>obtain⟨r2,hl2,hR⟩:=hre;exact⟨_,_,run_endRound (some (.exit i)) hl2,hk _ _ hR⟩
  |goto i=>exact hre.elim
  |panic c=>exact hre.elim
  |outgrown=>exact hre.elim
 |ret=>exact hq'.elim
 |exit i=>exact hq'.elim
 |goto i=>exact hq'.elim
 |panic c=>exact hq'.elim
 |outgrown=>exact hq'.elim
def mW:Value→Nat→Value
 | .tuple vs,D=> .tuple (Value.pointer (some ⟨D,0,none⟩)::vs.toList).toArray
 |_,D=> .tuple [Value.pointer (some ⟨D,0,none⟩)].toArray
theorem tH(v:Value)(D:Nat):mL (mW v D)=D::mL v:=by
 cases v<;>rfl
theorem Ma(v:Value)(D:Nat):marks (mW v D)=pW D::marks v:=by
 unfold marks;rw[tH];rfl
def Rs.bO(v:Value):Rs where
 fp:=fun x=>x∈mL v
 inv:=fun w=>(mL v).Nodup∧∀D∈mL v,w.heap[D]? =some (.deferred (some []))
 loc:=fun w w' h hi=>⟨hi.1,fun D hD=>(h D hD).trans (hi.2 D hD)⟩
 bd:=fun w h x e=>(ER.1 (h.2 x e)).1
theorem St.mk0(H:St X w0 w L):St X w0 w (L++[.bO undef]):=
 H.new (.refl _ _) ⟨List.nodup_nil,fun D h=>aad⟩ (fun b h=>aad)
theorem St.push(H:St X w0 w L)(q:Nat){v:Value}(hq:L[q]? =some (.bO v)):St X w0 (w.alloc (.deferred (some []))) (L.set q (.bO (mW v w.heap.size))):=by
 have hi:=H.Gt q hq
 have hl:∀D∈mL v,D<w.heap.size:=fun D hD=>(Rs.bO v).bd w hi D hD
 have hnew:(w.alloc (.deferred (some []))).heap[w.heap.size]? =some (.deferred (some [])):=FO
 refine H.put q hq (Ch.alloc _ w _) ⟨?_,?_⟩ (fun b hb=>?_)
 ·rw[tH];exact wI.2 ⟨fun h=>Nat.lt_irrefl _ (hl _ h),hi.1⟩
 ·rw[tH]
  intro D hD
  rcases X_.1 hD with e|e
  ·rw[e];exact hnew
  exact(Below.heap_alloc w _ D (hl D e)).trans (hi.2 D e)
 have hb':b∈mL (mW v w.heap.size):=hb
 rw[tH]at hb'
 rcases X_.1 hb' with e|e
 ·exact .inr a_
 exact .inl e
structure LO (N:Nat) (t:Fr) (pl:List Nat) (assign body:Code) (o:Loop):Prop where
 st:o.state= .ready
 pd:o.pending=none
 ps:o.params=pl.toArray
 asg:o.assign=assign
 bdy:o.body=body
 tm:Tm N t o.tmps
def ku(o:Loop):Loop:={o with state:= .busy}
def mK(o:Loop)(c:Code):Loop:={o with state:= .done,pending:=some c}
def pS(o:Loop):Loop:={o with state:= .exhausted}
theorem L4{o:Loop}(h1:o.state= .ready)(h2:o.pending=none):{o with state:= .ready,pending:=none}=o:=by
 cases o;cases h1;cases h2;rfl
theorem yB{l:Nat}{o:Loop}{assign body:Code}{pl:List Nat}{M:Nat}{tr:Fr}(H:St X w0 w L)(q:Nat)(hq:L[q]? =some (.obj l (.loop o)))(hO:LO M tr pl assign body o)(h:∀w',St X w0 w' (L.set q (.obj l (.loop (ku o))))→Wc P (some l) M (RE P l R) body t w'):RB P l M R body .normal t w:=
 OV H q hq hO.st h
theorem yN{l:Nat}{o:Loop}{assign body:Code}{pl:List Nat}{M:Nat}{tr:Fr}(H:St X w0 w L)(q:Nat)(hq:L[q]? =some (.obj l (.loop (ku o))))(hO:LO M tr pl assign body o)(h:∀w',St X w0 w' (L.set q (.obj l (.loop o)))→R (.bool true) w'):RE P l R .normal t w:=
 OY H q hq fun w' h'=>h w' (by
  have e:({ku o with state:= .ready,pending:=none}:Loop)=o:=(show({ku o with state:= .ready,pending:=none}:Loop)={o with state:= .ready,pending:=none} from rfl).trans (L4 hO.st hO.pd)
  rw[e]at h';exact h')
theorem yR{l:Nat}{o:Loop}(H:St X w0 w L)(q:Nat)(hq:L[q]? =some (.obj l (.loop (ku o))))(h:∀w',St X w0 w' (L.set q (.obj l (.loop (mK o .ret))))→R (.bool false) w'):RE P l R .ret t w:=
 OZ H q hq h
theorem yX{l i:Nat}{o:Loop}(H:St X w0 w L)(q:Nat)(hq:L[q]? =some (.obj l (.loop (ku o))))(h:∀w',St X w0 w' (L.set q (.obj l (.loop (mK o (.exit i)))))→R (.bool false) w'):RE P l R (.exit i) t w:=
 O0 H q hq h
theorem jf{l M:Nat}{o:Loop}{assign body:Code}{xs:Array Operand}{as_:Array TypeId}{tr:Fr}{pl:List Nat}(vs:List Value)(hx:ev t x= .func (.yield l) #[] #[])(hv:xs.toList.map (ev t)=vs)(H:St X w0 w L)(q:Nat)(hq:L[q]? =some (.obj l (.loop o)))(hO:LO M tr pl assign body o)(hs:Nat.beq vs.length pl.length=true)(hlt:pl.all (fun p=>Nat.blt p M)=true)(h:Wc P (some l) M (RB P l M R body) assign (xr tr pl vs) w):Yd P ρ N ⟨d,.call ⟨.value x,xs,as_⟩,ty,ps,af,g⟩ t w R:=
 Re vs hx hv H q hq hO.tm pl hO.ps (eF hs) hlt (by rw[hO.bdy,hO.asg];exact h)
def yb(Q:Exit→Fr→World→Prop)(t:Fr)(W:World):Option Code→Prop
 |none=>Q .normal t W
 |some .ret=>Q .ret t W
 |some (.exit i)=>Q (.exit i) t W
 |_=>False
def EL(P:Program)(l:Nat)(Q:Exit→Fr→World→Prop)(t:Fr)(w:World):Prop:=
 ∃r pd,w.heap[l]? =some (.loop r)∧r.state≠ .busy∧r.pending=pd∧yb Q t (w.putObj l (.loop {r with state:= .exhausted})) pd
theorem ji{l M:Nat}{o:Loop}{assign body:Code}{pl:List Nat}{tr:Fr}(H:St X w0 w L)(q:Nat)(hq:L[q]? =some (.obj l (.loop o)))(hO:LO M tr pl assign body o)(h:∀w',St X w0 w' (L.set q (.obj l (.loop (pS o))))→Q .normal t w'):EL P l Q t w:=
 ⟨o,none,H.Gt q hq,by rw[hO.st];nofun,hO.pd,h _ (H.om q hq _)⟩
theorem zO{l:Nat}{o:Loop}(H:St X w0 w L)(q:Nat)(hq:L[q]? =some (.obj l (.loop (mK o .ret))))(h:∀w',St X w0 w' (L.set q (.obj l (.loop (pS (mK o .ret)))))→Q .ret t w'):EL P l Q t w:=
 ⟨mK o .ret,some .ret,H.Gt q hq,nofun,rfl,h _ (H.om q hq _)⟩
theorem Iw{l i:Nat}{o:Loop}(H:St X w0 w L)(q:Nat)(hq:L[q]? =some (.obj l (.loop (mK o (.exit i)))))(h:∀w',St X w0 w' (L.set q (.obj l (.loop (pS (mK o (.exit i))))))→Q (.exit i) t w'):EL P l Q t w:=
 ⟨mK o (.exit i),some (.exit i),H.Gt q hq,nofun,rfl,h _ (H.om q hq _)⟩
def JW(P:Program)(ρ:Option Nat)(N:Nat)(Q:Exit→Fr→World→Prop)(a:Act)(W:World):Option Code→Prop
 |none=>∃t',Fm N t' a∧NP .normal∧Q .normal t' W
 |some c=>c.wpIn (Fw ρ) 0 P (fun e a' w'=>∃t',Fm N t' a'∧NP e∧Q e t' w') a W
theorem Ix{a:Act}{pd:Option Code}{W:World}(ha:Fm N t a)(hm:yb Q t W pd):JW P ρ N Q a W pd:=by
 cases pd with
 |none=>exact⟨t,ha,nofun,hm⟩
 |some c=>
  cases c with
  |ret=>exact wpIn_ret ⟨t,ha,nofun,hm⟩
  |exit i=>exact wpIn_exit ⟨t,ha,nofun,hm⟩
  |_=>exact hm.elim
theorem Iv{l:Nat}{a:Act}{w₃:World}(ha:Fm N t a)(h:EL P l Q t w₃):∃jump w₄,(Instr.endLoop l).run P w₃= .ok jump w₄∧JW P ρ N Q a w₄ jump:=by
 obtain⟨r,pd,hl,hb,rfl,hm⟩:=h
 exact⟨r.pending,_,run_endLoop hl hb,Ix ha hm⟩
theorem Iu{l:Nat}{a:Act}{w₃:World}{v:Value}(ha:Fm N t a)(h:EL P l Q t w₃):rangePost (Fw ρ) 0 P l (fun e a' w'=>∃t',Fm N t' a'∧NP e∧Q e t' w') a (.returned v) w₃:=by
 obtain⟨jump,w4,h1,h2⟩:=Iv (ρ:=ρ) ha h
 refine⟨jump,w4,h1,?_⟩
 cases jump with
 |none=>exact h2
 |some c=>exact h2
theorem Pa{f:Nat}{cap:List Value}{y:Value}(eg:Enters P f):(invoke (.fn (.func f) cap.toArray) #[y]).run P w= .ok (.enter f (y::cap).toArray) w:=by
 simp[invoke,go_sem]
 exact eg _ _
theorem Fm.push{a:Act}(ha:Fm N t a)(D:Nat):Fm N (upd t 1000000 (mW (t 1000000) D)) {a with defers:=[pW D]++a.defers}:=by
 refine⟨ha.small,?_,ha.size,fun i hi=>?_⟩
 ·show pW D::a.defers=marks (upd t 1000000 (mW (t 1000000) D) 1000000)
  have:upd t 1000000 (mW (t 1000000) D) 1000000=mW (t 1000000) D:=rfl
  rw[this,Ma,ha.defers]
 show a.tmps.getD i undef=upd t 1000000 _ i
 unfold upd;rw[hi];exact ha.get i hi
theorem Pb{gg:Operand}{f l:Nat}{cap:Array Value}{a:Act}(hx:a.eval gg= .func (.func f) #[] cap):
 (resolve a.eval (rangeCall gg l) 0).run P w= .ok {target:= .fn (.func f) cap,args:=#[.func (.yield l) #[] #[]]} w:=by
 simp only[resolve,hx]
 simp[go_sem]
theorem je{gg:Operand}{pl:List Nat}{assign body:Code}{f:Nat}{fnc:Func}{c:Code}{v:Value}(n:Nat)(cap:List Value)(hx:ev t gg= .func (.func f) #[] cap.toArray)(h1:P.funcs[f]? =some fnc)(h0:(fnc.name== "runtime.NumGoroutine")=false)(h2:fnc.body=some c)(h3:fnc.ntmps=n)(h4:Nat.ble (cap.length+1) n=true)(hs:Nat.ble n 1000000=true)(H:St X w0 w L)(q:Nat)(hq:L[q]? =some (.bO v))(hv:t 1000000=v)(h:∀v' l o w',LO N t pl assign body o→St X w0 w' (L.set q (.bO v')++[.obj l (.loop o)])→
 Wc P none n (nq P n fnc fun _ w''=>EL P l Q (upd t 1000000 v') w'') c (t0 (.func (.yield l) #[] #[]::cap)) w'):
 Wc P none N Q (.rangeFunc gg pl.toArray assign body) t w:=by
 intro a ha
 refine wpIn_rangeFunc fun fn _=>?_
 have hen:=run_enterLoop_outer (P:=P) (w:=w) fn a.tmps pl.toArray assign body
 have H1:=(H.push q hq).obj (.loop {state:= .ready,pending:=none,fn,tmps:=a.tmps,params:=pl.toArray,assign,body,defers:=w.heap.size})
 rw[World.size_alloc]at H1
 have eg:=enters_of (P:=P) h1 h0 h2
 refine⟨w.heap.size+1,[{target:= .collected w.heap.size,args:=#[]}],_,{target:= .fn (.func f) cap.toArray,args:=#[.func (.yield (w.heap.size+1)) #[] #[]]},_,f,(.func (.yield (w.heap.size+1)) #[] #[]::cap).toArray,_,hen,Pb P9,fun _ _=>trivial,Pa eg,(fun e=>ZB),?_⟩
 have hw:=h _ _ _ _ ⟨rfl,rfl,rfl,rfl,rfl,ha.tm⟩ H1
 have hf:=ha.push w.heap.size
 rw[hv]at hf
 refine(yT h1 h2 h3 (by simpa using Z_ h4) (Z_ hs) (R:=rangePost (Fw none) 0 P (w.heap.size+1) _ _) ?_)
 exact xQ hw fun e t' w' ⟨he,v,ht⟩=>⟨he,v,uE (fun w'' ⟨hr,hel⟩=>⟨hr,Iu (ρ:=none) hf hel⟩) _ _ ht⟩
theorem Dz{K:World→Prop}:∀(Ds:List Nat)(w:World),Ds.Nodup→(∀D∈Ds,w.heap[D]? =some (.deferred (some [])))→(∀w',Ch (fun x=>x∈Ds) w w'→K w')→Tk P (Ds.map pW) w K
 | [],w,_,_,h=>h w (.refl _ _)
 |D::Ds,w,hn,hi,h=>by
  obtain⟨h1,h2⟩:=wI.1 hn
  refine⟨D,_,rfl,run_takeDeferred (hi D H_),Dz Ds _ h2 (fun E hE=>?_) fun w' hc=>h w' ?_⟩
  ·rw[World.putObj_heap_other (fun e:E=D=>h1 (by rw[←e];exact hE))]
   exact hi E (o_ _ hE)
  exact(Ch.mono (yU w D _) (fun i _ e=>by rw[e];exact H_)).trans (Ch.mono hc fun i _ e=>o_ _ e)
theorem gT{v:Value}{K:World→Prop}(H:St X w0 w L)(q:Nat)(hq:L[q]? =some (.bO v))(hv:t 1000000=v)(h:∀w',St X w0 w' (L.set q (.bO undef))→K w'):Tk P (marks (t 1000000)) w K:=by
 rw[hv]
 have hi:=H.Gt q hq
 exact Dz _ w hi.1 hi.2 fun w' hc=>h w' (H.put q hq hc ⟨List.nodup_nil,fun D h=>aad⟩ (fun b h=>aad))
end
abbrev Sv:=Option Addr×Nat×Nat
def sv(a:Sv):Value:= .slice a.1 a.2.1 a.2.2
def hz:Sv:=(none,0,0)
def bm.oE:bm Sv:=⟨1,fun a=> [sv a],fun _=>rfl,fun a v h=>Np⟩
def Rs.gQ:Rs:=⟨fun _=>False,fun _=>True,fun _ _ _ h=>h,fun _ _ _ h=>h.elim⟩
section
variable{X:Nat→Prop}{w0 w w':World}{L:List Rs}
theorem St.EG(H:St X w0 w L)(q q2:Nat){r s r':Rs}(hq:L[q]? =some r)(hs:L[q2]? =some s)(hne:(q==q2)=false)(h:Ch r.fp w w')(hr:r'.inv w')(hf:∀b,r'.fp b→r.fp b∨s.fp b∨w.heap.size≤b):
 St X w0 w' ((L.set q r').set q2 .gQ):=by
 have hne':q≠q2:=aam
 obtain⟨l1,e1⟩:=χ.1 hq
 obtain⟨l2,e2⟩:=χ.1 hs
 have mr:=ω hq
 have ms:=ω hs
 have apart:∀i j (hi:i<L.length) (hj:j<L.length),i≠j→∀b,L[i].fp b→¬L[j].fp b:=by
  intro i j hi hj hij b x y
  rcases aaC hij with hl|hl
  ·exact(Ω.1 H.dj) i j hi hj hl b x y
  exact(Ω.1 H.dj) j i hj hi hl b y x
 have get:∀j (hj:j<((L.set q r').set q2 .gQ).length),∃hj':j<L.length,(j=q2∧((L.set q r').set q2 .gQ)[j]= .gQ)∨(j=q∧j≠q2∧((L.set q r').set q2 .gQ)[j]=r')∨(j≠q∧j≠q2∧((L.set q r').set q2 .gQ)[j]=L[j]):=by
  intro j hj
  have hj':j<L.length:=aat
  refine⟨hj',?_⟩
  by_cases h2:j=q2
  ·subst h2;exact .inl ⟨rfl,j_⟩
  by_cases h1:j=q
  ·subst h1;exact .inr (.inl ⟨rfl,h2,by simp[LV,Z7 h2]⟩)
  exact .inr (.inr ⟨h1,h2,by simp[LV,Z7 h1,Z7 h2]⟩)
 have D:∀j (hj:j<L.length),j≠q→j≠q2→∀b,r'.fp b→¬L[j].fp b:=by
  intro j hj h1 h2 b hb hb'
  rcases hf b hb with h3|h3|h3
  ·exact apart q j l1 hj (Z7 h1) b (by rw[e1];exact h3) hb'
  ·exact apart q2 j l2 hj (Z7 h2) b (by rw[e2];exact h3) hb'
  have:=L[j].bd w (H.inv _ (T_ hj)) b hb';omega
 refine⟨H.ch.trans' h (fun b hb x=>(H.fp r mr b x).resolve_left a_),?_,?_,?_⟩
 ·intro t ht
  obtain⟨j,hj,rfl⟩:=ES ht
  obtain⟨hj',c|c|c⟩:=get j hj
  ·rw[c.2];exact trivial
  ·rw[c.2.2];exact hr
  rw[c.2.2]
  exact Rs.keep (H.inv _ (T_ hj')) h (fun b x y=>apart j q hj' l1 c.1 b x (by rw[e1];exact y))
 ·intro t ht b hb
  obtain⟨j,hj,rfl⟩:=ES ht
  obtain⟨hj',c|c|c⟩:=get j hj
  ·rw[c.2]at hb;exact hb.elim
  ·rw[c.2.2]at hb
   rcases hf b hb with h3|h3|h3
   ·exact H.fp r mr b h3
   ·exact H.fp s ms b h3
   exact .inl (Lh H.ch.size h3)
  rw[c.2.2]at hb;exact H.fp _ (T_ hj') b hb
 rw[Ω]
 intro i j hi hj hij b x y
 obtain⟨hi',c|c|c⟩:=get i hi
 ·rw[c.2]at x;exact x
 ·rw[c.2.2]at x
  obtain⟨hj',d|d|d⟩:=get j hj
  ·rw[d.2]at y;exact y
  ·omega
  rw[d.2.2]at y;exact D j hj' d.1 d.2.1 b x y
 rw[c.2.2]at x
 obtain⟨hj',d|d|d⟩:=get j hj
 ·rw[d.2]at y;exact y
 ·rw[d.2.2]at y;exact D i hi' c.1 c.2.1 b y x
 rw[d.2.2]at y;exact apart i j hi' hj' a_ b x y
end
section
variable{α:Type}
def Rs.rows(e:bm α)(Er Ev:TypeId)(v:Value)(us:List Sv)(ls:List (List α)):Rs where
 fp:=fun x=>v.ownBlock=some x∨∃u∈us,(sv u).ownBlock=some x
 inv:=fun w=>(Rs.own bm.oE Ev v us).inv w∧us.length=ls.length∧(∀i u l,us[i]? =some u→ls[i]? =some l→(Rs.own e Er (sv u) l).inv w)∧
  (∀u∈us,∀b,(sv u).ownBlock=some b→v.ownBlock≠some b)∧us.Pairwise (fun u u'=>∀b,(sv u).ownBlock=some b→(sv u').ownBlock≠some b)
 loc:=fun w w' h ⟨h1,h2,h3,h4,h5⟩=>⟨(Rs.own bm.oE Ev v us).loc w w' (fun b hb=>h b (.inl hb)) h1,h2,
  fun i u l hu hl=>(Rs.own e Er (sv u) l).loc w w' (fun b hb=>h b (.inr ⟨u,ω hu,hb⟩)) (h3 i u l hu hl),h4,h5⟩
 bd:=fun w ⟨h1,h2,h3,h4,h5⟩ x hx=>by
  rcases hx with hx|⟨u,hu,hx⟩
  ·exact(Rs.own bm.oE Ev v us).bd w h1 x hx
  obtain⟨i,hi,rfl⟩:=ES hu
  exact(Rs.own e Er (sv us[i]) ls[i]).bd w (h3 i _ _ (C_ hi) (C_ a_)) x hx
variable{e:bm α}{Er Ev:TypeId}{v:Value}{us:List Sv}{ls:List (List α)}{w:World}
theorem C5{i:Int}(h:(Rs.rows e Er Ev v us ls).inv w)(h0:0≤i)(h1:i<ls.length):us[i.toNat]? =some (at_ hz us i)∧ls[i.toNat]? =some (at_ [] ls i)∧(Rs.own e Er (sv (at_ hz us i)) (at_ [] ls i)).inv w:=by
 have e1:=ga hz (l:=us) h0 (by rw[h.2.1];exact h1)
 have e2:=ga ([]:List α) h0 h1
 exact⟨e1,e2,h.2.2.1 _ _ _ e1 e2⟩
theorem uy(h:(Rs.rows e Er Ev v us ls).inv w):Rd (.sl (.of e)) w (Rs.rows e Er Ev v us ls).fp v ls:=by
 have hd:=ao h.1
 obtain⟨p,c,h1,h2,h3,h4⟩:=hd
 refine⟨p,c,by rw[h1,h.2.1],by rw[←h.2.1];exact h2,h3,?_⟩
 rcases h4 with⟨h5,h6,h7⟩|⟨b,o,h5,h6,h7⟩
 ·exact .inl ⟨Ψ (by rw[←h.2.1,h5];rfl),h6,h7⟩
 refine .inr ⟨b,o,h5,.inl h6,fun i l hl=>?_⟩
 have hi:i<us.length:=by rw[h.2.1];exact(χ.1 hl).1
 obtain⟨cs,hc,hr⟩:=h7 i us[i] (C_ hi)
 have hc':cs=[sv us[i]]:=hc
 refine⟨cs,⟨sv us[i],hc',?_⟩,hr⟩
 exact(ao (h.2.2.1 i _ _ (C_ hi) hl)).mono fun b hb=> .inr ⟨us[i],T_ hi,hb⟩
theorem uw{i:Int}(h:(Rs.rows e Er Ev v us ls).inv w)(h0:0≤i)(h1:i<ls.length):Rd (.of e) w (Rs.rows e Er Ev v us ls).fp (sv (at_ hz us i)) (at_ [] ls i):=by
 obtain⟨e1,e2,e3⟩:=C5 h h0 h1
 exact(ao e3).mono fun b hb=> .inr ⟨_,ω e1,hb⟩
end
section
variable{P:Program}{ρ:Option Nat}{N:Nat}{Q:Exit→Fr→World→Prop}{t:Fr}{w w0:World}{X:Nat→Prop}{L M:List Rs}{R:Value→World→Prop}{d:Option Nat}{ty T T':TypeId}{ps:String}{af:Array Edge}{g:Option (Nat×Bool)}{x y:Operand}{α:Type}{e:bm α}{Er Ev:TypeId}{v:Value}{us:List Sv}{ls:List (List α)}
theorem St.BK(H:St X w0 w L)(e:bm α)(Er Ev:TypeId):St X w0 w (L++[.rows e Er Ev (.slice none 0 0) [] []]):=
 H.new (.refl _ _) ⟨⟨PS,.inl ⟨rfl,rfl⟩⟩,rfl,fun i u l h=>aS,fun u h=>aS,.nil⟩ (fun b hb=>by rcases hb with hb|⟨u,hu,_⟩;cases hb;simp at hu)
theorem D7{by_:Nat}{zz u:Value}{p:Option Addr}{n c:Nat}{l:List α}{F:Nat→Prop}(hT:Sl P T Ev 1 by_ zz)(H:St X w0 w L)(q q2:Nat)(hq:L[q]? =some (.rows e Er Ev v us ls))(hs:L[q2]? =some (.own e Er (.slice p n c) l))(hne:(q==q2)=false)(hu:Rd (.of bm.oE) w F u [(p,n,c)])(hx:ev t x=v)(hy:ev t y=u)(hb:(ls.length+1)*by_≤140737488355328)(h63:ls.length+1≤maxLen)(h:∀v' us' w',St X w0 w' ((L.set q (.rows e Er Ev v' us' (ls++[l]))).set q2 .gQ)→R v' w'):Yd P ρ N ⟨d,.call ⟨.builtin .append,#[x,y],#[T,T]⟩,ty,ps,af,g⟩ t w R:=by
 have hi:=H.Gt q hq
 have hl:=H.Gt q2 hs
 have hap:=H.apart q q2 aam hq hs
 obtain⟨v',w',h1,h2,h3,h4⟩:=Db (ty:=ty) hT hi.1 hu (by rw[hi.2.1];exact hb) (by rw[hi.2.1];exact h63)
 have hbd:∀u∈us,∀b,(sv u).ownBlock=some b→b<w.heap.size:=fun u hu b hb=>(Rs.rows e Er Ev v us ls).bd w hi b (.inr ⟨u,hu,hb⟩)
 have hbl:∀b,(sv (p,n,c)).ownBlock=some b→b<w.heap.size:=fun b hb=>(Rs.own e Er (.slice p n c) l).bd w hl b hb
 have hfr:∀b,v'.ownBlock=some b→v.ownBlock=some b∨w.heap.size≤b:=h4
 refine eD (v:=v') (w':=w') ?_ (h v' (us++[(p,n,c)]) w' (H.EG q q2 hq hs hne (h3.mono fun i _ hx=> .inl hx) ⟨h2,by simp[hi.2.1],?_,?_,?_⟩ ?_))
 ·simp[execOp,resolve,invoke,builtin,hx,hy,h1]
 ·intro i u' l' hu' hl'
  by_cases hlt:i<us.length
  ·rw[ξ hlt]at hu'
   rw[ξ (by rw[←hi.2.1];exact hlt)]at hl'
   exact Rs.keep (hi.2.2.1 i u' l' hu' hl') h3 (fun b hb hx=>hi.2.2.2.1 u' (ω hu') b hb hx)
  have hi2:i<us.length+1:=by have:=(χ.1 hu').1;simpa using this
  have:i=us.length:=a_
  subst this
  rw[ε (aI _),Ff]at hu'
  rw[ε (by rw[hi.2.1];exact aI _),hi.2.1,Ff]at hl'
  simp at hu' hl'
  subst hu';subst hl'
  exact Rs.keep hl h3 (fun b hb hx=>hap b (.inl hx) hb)
 ·intro u' hu' b hb hv'
  rcases hfr b hv' with h5|h5
  ·rcases dO.1 hu' with h6|h6
   ·exact hi.2.2.2.1 u' h6 b hb h5
   rw[Q_.1 h6]at hb
   exact hap b (.inl h5) hb
  rcases dO.1 hu' with h6|h6
  ·have:=hbd u' h6 b hb;omega
  rw[Q_.1 h6]at hb
  have:=hbl b hb;omega
 ·refine LJ.2 ⟨hi.2.2.2.2,Dc _ _,fun a ha b hb k h5 h6=>?_⟩
  rw[Q_.1 hb]at h6
  exact hap k (.inr ⟨a,ha,h5⟩) h6
 intro b hb
 rcases hb with hb|⟨u',hu',hb⟩
 ·rcases hfr b hb with h5|h5
  ·exact .inl (.inl h5)
  exact .inr (.inr h5)
 rcases dO.1 hu' with h6|h6
 ·exact .inl (.inr ⟨u',h6,hb⟩)
 rw[Q_.1 h6]at hb
 exact .inr (.inl hb)
theorem CG{i:Int}(hT:Sc P T)(hi:(Rs.rows e Er Ev v us ls).inv w)(h0:0≤i)(h1:i<ls.length)(hx:ev t x= .pointer (eo v (i.toNat*1))):Rv P ⟨d,.load T x,ty,ps,af,g⟩ t w (sv (at_ hz us i)):=
 lO (j:=0) hT (ao hi.1) (C5 hi h0 h1).1 rfl hx
theorem Bm{b:Nat}{p:Option Addr}{n c:Nat}(h:(Rs.blk b #[.slice p n c] Ev).inv w):Rd (.of bm.oE) w (fun x=>x=b) (.slice (some ⟨b,0,none⟩) 1 1) [(p,n,c)]:=by
 refine⟨_,1,rfl,aI _,u_,.inr ⟨b,0,rfl,rfl,fun i x hx=>?_⟩⟩
 match i with
 |0=>
  simp at hx
  subst hx
  refine⟨_,rfl,fun j u hj=>?_⟩
  match j with
  |0=>
   have:u= .slice p n c:=by simpa [bm.oE,sv] using hj.symm
   subst this
   exact ak h rfl
  |j+1=>simp[bm.oE]at hj
 |i+1=>simp at hx
end
end Go.Proofs.YtmhkpafkadijgaaGreatDoor.Gw
