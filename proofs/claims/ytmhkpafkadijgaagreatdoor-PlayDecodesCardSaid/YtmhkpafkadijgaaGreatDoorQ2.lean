/- A part of the proof of Rows.PlayDecodesCardSaid; the conditions are that card's own. -/
import Derived.Lib.AppendZeros
import Derived.Test.YtmhkpafkadijgaaGreatDoorQ1
import Derived.Laws.IdiomCopy
import Derived.Laws.CopyRow
import Derived.MapKept
import Derived.Test.YtmhkpafkadijgaaGreatDoorProg
set_option linter.all false
namespace Go.Proofs.YtmhkpafkadijgaaGreatDoor.Gw
open Go Go.RowKit
theorem Tt(n:Nat):Builtin.zeroCells (Value.int .u8 0).cells n=(List.replicate n (Value.int .u8 0)).toArray:=by
 have h1:(Value.int .u8 0).cells=#[Value.int .u8 0]:=rfl
 unfold Builtin.zeroCells
 rw[h1]
 apply Array.ext
 ·simp
 intro i hi hj
 simp[Nat.mod_one]
theorem V9(n:Nat):(bm.int .u8).all (List.replicate n (0:Int))=List.replicate n (Value.int .u8 0):=by
 induction n with
 |zero=>rfl
 |succ n ih=>rw[FU,FU,←ih];rfl
theorem X5{P:Program}{w:World}{T T' E:Nat}{ty:TypeId}{kn k:IntKind}{v:Value}{l:List Int}{n:Nat}(hT:Sl P T E 1 1 (.int .u8 0))(htn:P.underlying T'=some (.int kn))(hv:(Rs.own (.int .u8) E v l).inv w)(h0:0<n)(hb:l.length+n≤140737488355328):
 ∃v' w',(Builtin.append_ #[T,T'] ty #[v,.int k n]).run P w= .ok v' w'∧(Rs.own (.int .u8) E v' (l++List.replicate n 0)).inv w'∧Ch (Rs.own (.int .u8) E v l).fp w w'∧(∀b,(Rs.own (.int .u8) E v' (l++List.replicate n 0)).fp b→(Rs.own (.int .u8) E v l).fp b∨w.heap.size≤b):=by
 obtain⟨ht,i,hi,hs,hby,hz,hzs,hsz⟩:=hT
 have hlen:((bm.int .u8).all l).length=l.length:=by rw[(bm.int .u8).fC];exact EI _
 have hall:(bm.int .u8).all (l++List.replicate n 0)=(bm.int .u8).all l++List.replicate n (Value.int .u8 0):=by rw[bm.qB,V9]
 have hlen2:((bm.int .u8).all (l++List.replicate n 0)).length=(l++List.replicate n (0:Int)).length*(bm.int .u8).sz:=(bm.int .u8).fC _
 have hll:(l++List.replicate n (0:Int)).length=l.length+n:=j_
 have grown:∀(old:Nat),(Rs.own (.int .u8) E (.slice (some ⟨w.heap.size,0,none⟩) (l.length+n) (grownCap w (l.length+n) old E)) (l++List.replicate n 0)).inv (w.drew.alloc (.cells (((bm.int .u8).all l).toArray++(List.replicate n (Value.int .u8 0)).toArray++(List.replicate (grownCap w (l.length+n) old E-(l.length+n)) (Value.int .u8 0)).toArray) E))∧
  Ch (Rs.own (.int .u8) E v l).fp w (w.drew.alloc (.cells (((bm.int .u8).all l).toArray++(List.replicate n (Value.int .u8 0)).toArray++(List.replicate (grownCap w (l.length+n) old E-(l.length+n)) (Value.int .u8 0)).toArray) E)):=by
  intro old
  have hge:=grownCap_ge w (l.length+n) old E
  have hcm:grownCap w (l.length+n) old E≤maxLen:=grownCap_le_maxLen w (l.length+n) old E u_
  refine⟨⟨hlen2,.inr ⟨w.heap.size,_,_,by rw[hll],jc _,heap_alloc_new w.drew _,by rw[hll];exact hge,hcm,?_,?_⟩⟩,.grown (r:=none) ⟨rfl,rfl,rfl,j_,fun k hk _=>heap_alloc_old w.drew _ hk⟩ (fun k hk=>by cases hk)⟩
  ·simp only[Array.size_append,List.size_toArray,P_,hlen]
   show _=_*1
   omega
  rw[hall,aar,aar]
  refine NT ?_
  rw[E_,hlen,P_,hll];exact(EI _).symm
 have hns:n≠0:=a_
 have hw:IntKind.i64.wrap (n:Int)=n:=by rw[IntKind.wrap_i64];omega
 have hneg:¬((n:Int)<0):=a_
 have h48i:¬(281474976710656<(n:Int)*(i.bytes:Int)):=by rw[hby];omega
 have hns1:¬(n*i.size=0):=by rw[hs];omega
 rcases hv.2 with⟨hn,hl0⟩|⟨g,cap,cur,hg,_,hh,hnc,hcm,hcs,htk⟩
 ·have hl':l=[]:=Ψ hl0
  subst hl';subst hn
  have hr:=Lib.run_append_nil_zeros (P:=P) w T T' ty E i (.int .u8 0) k kn ht htn hi hz n h0 (by rw[hs];exact Nat.one_pos) a_ (by rw[hby];omega)
  have hgr:=grown 0
  rw[Tt,Tt]at hr
  simp only[N_,FW,show((bm.int .u8).all ([]:List Int))=[] from rfl,Array.empty_append]at hgr
  refine⟨_,_,hr,hgr.1,hgr.2,fun b hb=> .inr ?_⟩
  have hb':some w.heap.size=some b:=hb
  cases hb';exact aI _
 subst hg
 by_cases hroom:l.length+n≤cap
 ·have hst:=run_storeCells_at P g l.length E (List.replicate n (Value.int .u8 0)) 0 cur w hh (by rw[P_,hcs];show _≤cap*1;omega) (fun u hu=>by rw[(List.mem_replicate.1 hu).2];rfl)
  simp only[Gy,P_]at hst
  have hr:(Builtin.append_ #[T,T'] ty #[.slice (some ⟨g,0,none⟩) l.length cap,.int k n]).run P w= .ok (.slice (some ⟨g,0,none⟩) (l.length+n) cap) (w.setRow g (cur.toList.take l.length++List.replicate n (Value.int .u8 0)++cur.toList.drop (l.length+n)).toArray):=by
   simp[Builtin.append_,run_underlying ht,run_underlying htn,sizeOf,typeInfo,zeroValue,hi,hz,asInt,asIntOf,hw,hns,hneg,hns1,h48i,hs,hroom,Addr.add_lit,Tt,hst]
  refine⟨_,_,hr,⟨hlen2,.inr ⟨g,cap,_,by rw[hll],jc _,setRow_heap w g cur _ E _ hh,by rw[hll];exact hroom,hcm,?_,?_⟩⟩,.grown (r:=some g) ⟨rfl,rfl,rfl,j_,fun k _ hk=>setRow_other w g k _ (fun e=>hk (by rw[e]))⟩ (fun k hk=>hk),fun b hb=> .inl hb⟩
  ·have hcs':cur.size=cap:=hcs.trans (EI _)
   simp only[List.size_toArray,E_,ζ,FT,LQ,P_]
   show _=_*1
   omega
  have htk':cur.toList.take l.length=(bm.int .u8).all l:=by
   rw[←htk];congr 1;exact(EI _).symm
  rw[htk',hall]
  refine NT ?_
  rw[E_,hlen,P_,hll];exact(EI _).symm
 have holds:∀j u,((bm.int .u8).all l)[j]? =some u→w.cell? ((⟨g,0,none⟩:Addr).add j)=some u:=World.ownsRow.cells (g:=g) hv rfl
 have hfo:=run_firstCells_some (P:=P) w.drew i.size l.length ⟨g,0,none⟩ l.length cap ((bm.int .u8).all l) (by rw[hs,hlen,EI]) (by simpa using holds)
 have hn:¬(l.length+n≤cap):=hroom
 have h63':¬(9223372036854775807<((l.length:Int)+(n:Int))):=a_
 have h48':¬(281474976710656<Builtin.nextslicecap (l.length+n) cap*i.bytes):=by
  have:=growslice_fits (need:=l.length+n) (bytes:=1) (old:=cap) a_ a_
  rw[hby];omega
 have hr:(Builtin.append_ #[T,T'] ty #[.slice (some ⟨g,0,none⟩) l.length cap,.int k n]).run P w= .ok (.slice (some ⟨w.heap.size,0,none⟩) (l.length+n) (grownCap w (l.length+n) cap E)) (w.drew.alloc (.cells (((bm.int .u8).all l).toArray++(List.replicate n (Value.int .u8 0)).toArray++(List.replicate (grownCap w (l.length+n) cap E-(l.length+n)) (Value.int .u8 0)).toArray) E)):=by
  simp[Builtin.append_,run_underlying ht,run_underlying htn,sizeOf,typeInfo,zeroValue,hi,hz,asInt,asIntOf,hw,hns,hneg,hns1,h48i,hn,h63',h48',Question.forced,hfo,newRow,grownCap,Tt]
 have hgr:=grown cap
 refine⟨_,_,hr,hgr.1,hgr.2,fun b hb=> .inr ?_⟩
 have hb':some w.heap.size=some b:=hb
 cases hb';exact aI _
section
variable{P:Program}{ρ:Option Nat}{N:Nat}{t:Fr}{w w0:World}{X:Nat→Prop}{L:List Rs}{R:Value→World→Prop}{d:Option Nat}{ty T T' E:TypeId}{ps:String}{af:Array Edge}{g:Option (Nat×Bool)}{x y:Operand}
theorem YF{v:Value}{l:List Int}{n:Int}{kn k:IntKind}(hT:Sl P T E 1 1 (.int .u8 0))(hn:P.underlying T'=some (.int kn))(H:St X w0 w L)(q:Nat)(hq:L[q]? =some (.own (.int .u8) E v l))(hx:ev t x=v)(hy:ev t y= .int k n)(h0:0<n)(hb:(l.length:Int)+n≤140737488355328)(h:∀v' w',St X w0 w' (L.set q (.own (.int .u8) E v' (l++List.replicate n.toNat 0)))→R v' w'):Yd P ρ N ⟨d,.call ⟨.builtin .append,#[x,y],#[T,T']⟩,ty,ps,af,g⟩ t w R:=by
 obtain⟨m,rfl⟩:∃m:Nat,n=m:=⟨n.toNat,a_⟩
 obtain⟨v',w',h1,h2,h3,h4⟩:=X5 (P:=P) (ty:=ty) (k:=k) (n:=m) hT hn (H.Gt q hq) a_ a_
 refine eD (v:=v') (w':=w') ?_ (h v' w' (H.put q hq h3 h2 h4))
 simp[execOp,resolve,invoke,builtin,hx,hy,h1]
end
def uU(Q:Exit→Fr→World→Prop):Exit→Fr→World→Prop
 | .goto _,_,_=>False
 |e,t,w=>Q e t w
section
variable{P:Program}{ρ:Option Nat}{N:Nat}{Q:Exit→Fr→World→Prop}{t:Fr}{w:World}
theorem qm{b:Frame}{a:Act}{k:List Item}{cs:List Frame}{c:Code}:step P (lone (b.atR a (.code (.scope c)::k)) cs w)= .next (lone (b.atR a (.code c:: .inScope c::k)) cs w):=
 step_lone_go (by simp[stepG,stepG.exec,Frame.atR])
theorem Qd{b:Frame}{a:Act}{k:List Item}{cs:List Frame}{c:Code}:step P (lone (b.atR a (.inScope c::k)) cs w)= .next (lone (b.atR a k) cs w):=
 step_lone_go (by simp[stepG,stepG.exec,Frame.atR])
theorem xP{l:Nat}(h:Q .normal t w):Wc P ρ N Q (.label l) t w:=fun _ ha=>wpIn_label ⟨t,ha,nofun,h⟩
theorem xR{c:Code}(h:Wc P ρ N (uU Q) c t w):Wc P ρ N Q (.scope c) t w:=by
 intro a ha b k cs hro hb hr
 have h0:(lone (b.atR a (.code (.scope c)::k)) cs w).fenced P (Fw ρ):=fenced_calm hb hr rfl
 obtain⟨e,a₁,w₁,⟨t',f1,np,hq⟩,harr⟩:=h a ha b (.inScope c::k) cs hro hb hr
 cases e with
 |normal=>exact⟨.normal,a₁,w₁,⟨t',f1,np,hq⟩,.head h0 qm (StepsIn.trans harr (.one (fenced_calm hb hr rfl) Qd))⟩
 |exit id=>
  have hx:exitTo id (.inScope c::k)=exitTo id k:=by simp[exitTo]
  exact⟨_,a₁,w₁,⟨t',f1,np,hq⟩,fun k' hk=> .head h0 qm (harr.1 k' (by rw[hx];exact hk)),fun hr' hk=>let⟨k₁,h1,h2⟩:=harr.2 hr' (by rw[hx];exact hk);⟨k₁,h1,.head h0 qm h2⟩⟩
 |goto l=>exact hq.elim
 |ret=>exact⟨_,a₁,w₁,⟨t',f1,np,hq⟩,.of_steps (.one h0 qm) harr⟩
 |panic ch=>exact⟨_,a₁,w₁,⟨t',f1,np,hq⟩,.of_steps (.one h0 qm) harr⟩
 |outgrown=>exact⟨_,a₁,w₁,⟨t',f1,np,hq⟩,.of_steps (.one h0 qm) harr⟩
theorem Mq(h:Q .normal t w):uU Q .normal t w:=h
theorem xl(h:Q .ret t w):uU Q .ret t w:=h
end
section
variable{P:Program}{ρ:Option Nat}{N:Nat}{Q:Exit→Fr→World→Prop}{t:Fr}{w:World}
end
theorem St.start{r:Rs}{w:World}(h:r.inv w):St r.fp w w [r]:=
 ⟨.refl _ _,sW,by simpa using fun b hb=> .inr hb,Dc _ _⟩
section
variable{P:Program}{ρ:Option Nat}{N:Nat}{Q:Exit→Fr→World→Prop}{t:Fr}{w w0:World}{X:Nat→Prop}{L M:List Rs}{R:Value→World→Prop}{d:Option Nat}{ty T T' K E:TypeId}{ps:String}{af:Array Edge}{g:Option (Nat×Bool)}{x y z:Operand}{α:Type}
theorem zR(n:Nat){p:Addr}{E:TypeId}(hT:P.underlying T=some (.pointer E)):(Op.equalIn (n+1) T (.pointer (some p)) (.pointer none)).run P w= .ok false w:=by
 simp[Op.equalIn,run_underlying hT]
def mD:TypeDesc→Bool
 | .func _ _ _=>true
 |_=>false
theorem zP(n:Nat){D:TypeDesc}(hT:P.underlying T=some D)(hD:mD D=true):(Op.equalIn (n+1) T .nilFunc .nilFunc).run P w= .ok true w:=by
 cases D<;>simp[mD]at hD
 simp[Op.equalIn,run_underlying hT]
theorem zQ(n:Nat){D:TypeDesc}{f:Fn}{u v:Array Value}(hT:P.underlying T=some D)(hD:mD D=true):(Op.equalIn (n+1) T (.func f u v) .nilFunc).run P w= .ok false w:=by
 cases D<;>simp[mD]at hD
 simp[Op.equalIn,run_underlying hT]
theorem cV{p:Addr}{E:TypeId}(hT:P.underlying T=some (.pointer E))(hx:ev t x= .pointer (some p))(hy:ev t y= .pointer none):Rv P ⟨d,.binOp .eql T x y T',ty,ps,af,g⟩ t w (.bool false):=by
 have h1:(Op.equal T (.pointer (some p)) (.pointer none)).run P w= .ok false w:=zR 9999 hT
 unfold Rv;simp[execOp,hx,hy,eqGuard,binOp,Sem.run_bind,h1]
theorem Oz{D:TypeDesc}(hT:P.underlying T=some D)(hD:mD D=true)(hx:ev t x= .nilFunc)(hy:ev t y= .nilFunc):Rv P ⟨d,.binOp .eql T x y T',ty,ps,af,g⟩ t w (.bool true):=by
 have h1:(Op.equal T (.nilFunc) (.nilFunc)).run P w= .ok true w:=zP 9999 hT hD
 unfold Rv;simp[execOp,hx,hy,eqGuard,binOp,Sem.run_bind,h1]
theorem xh{D:TypeDesc}{f:Fn}{u v:Array Value}(hT:P.underlying T=some D)(hD:mD D=true)(hx:ev t x= .func f u v)(hy:ev t y= .nilFunc):Rv P ⟨d,.binOp .eql T x y T',ty,ps,af,g⟩ t w (.bool false):=by
 have h1:(Op.equal T (.func f u v) (.nilFunc)).run P w= .ok false w:=zQ 9999 hT hD
 unfold Rv;simp[execOp,hx,hy,eqGuard,binOp,Sem.run_bind,h1]
theorem xk{p:Addr}{E:TypeId}(hT:P.underlying T=some (.pointer E))(hx:ev t x= .pointer (some p))(hy:ev t y= .pointer none):Rv P ⟨d,.binOp .neq T x y T',ty,ps,af,g⟩ t w (.bool true):=by
 have h1:(Op.equal T (.pointer (some p)) (.pointer none)).run P w= .ok false w:=zR 9999 hT
 unfold Rv;simp[execOp,hx,hy,eqGuard,binOp,Sem.run_bind,h1]
theorem OA{D:TypeDesc}(hT:P.underlying T=some D)(hD:mD D=true)(hx:ev t x= .nilFunc)(hy:ev t y= .nilFunc):Rv P ⟨d,.binOp .neq T x y T',ty,ps,af,g⟩ t w (.bool false):=by
 have h1:(Op.equal T (.nilFunc) (.nilFunc)).run P w= .ok true w:=zP 9999 hT hD
 unfold Rv;simp[execOp,hx,hy,eqGuard,binOp,Sem.run_bind,h1]
theorem qh{D:TypeDesc}{f:Fn}{u v:Array Value}(hT:P.underlying T=some D)(hD:mD D=true)(hx:ev t x= .func f u v)(hy:ev t y= .nilFunc):Rv P ⟨d,.binOp .neq T x y T',ty,ps,af,g⟩ t w (.bool true):=by
 have h1:(Op.equal T (.func f u v) (.nilFunc)).run P w= .ok false w:=zQ 9999 hT hD
 unfold Rv;simp[execOp,hx,hy,eqGuard,binOp,Sem.run_bind,h1]
theorem gw{fn:Fn}{xs ys:Array Operand}(us vs:List Value)(hx:xs.toList.map (ev t)=us)(hy:ys.toList.map (ev t)=vs):Rv P ⟨d,.makeFunc fn xs ys,ty,ps,af,g⟩ t w (.func fn us.toArray vs.toArray):=by
 have e1:xs.map (ev t)=us.toArray:=by subst hx;apply EZ;simp
 have e2:ys.map (ev t)=vs.toArray:=by subst hy;apply EZ;simp
 rw[←e1,←e2];rfl
theorem qv{f:FuncId}{xs:Array Operand}{ats:Array TypeId}{vs:List Value}{fi cap:Array Value}(hx:ev t x= .func (.func f) fi cap)(hf:En P f)(hv:fi.toList++xs.toList.map (ev t)++cap.toList=vs)(h:Calls P f vs.toArray w fun e w''=>∃v,e= .returned v∧R v w''):
 Yd P ρ N ⟨d,.call ⟨.value x,xs,ats⟩,ty,ps,af,g⟩ t w R:=by
 refine uM (f:=f) (args:=vs.toArray) (w':=w) ?_ h
 have e:fi++xs.map (ev t)++cap=vs.toArray:=Lc
 simp only[execOp,resolve,Deferred.ofValue,hx,Sem.run_bind,Sem.run_pure,Result.andThen_ok,invoke,e,uz hf]
theorem qw{f:FuncId}{fn:Func}{c:Code}{xs:Array Operand}{ats:Array TypeId}{fi cap:Array Value}(n:Nat)(vs:List Value)(hx:ev t x= .func (.func f) fi cap)(hf:En P f)(h1:P.funcs[f]? =some fn)(h2:fn.body=some c)(h3:fn.ntmps=n)(h4:Nat.ble vs.length n=true)(hv:fi.toList++xs.toList.map (ev t)++cap.toList=vs)(h:Wc P none n (nq P n fn R) c (t0 vs) w)(hs:Nat.ble n 1000000=true:=by rfl):Yd P ρ N ⟨d,.call ⟨.value x,xs,ats⟩,ty,ps,af,g⟩ t w R:=
 qv hx hf hv (u4 h1 h2 h3 (Nat.le_of_ble_eq_true h4) hs h)
def Ba(P:Program)(T:TypeId)(n sz:Nat)(cs:Array Value):Prop:=
 ∃E v,P.underlying T=some (.array n E)∧(P.info? T).bind (·.zero)=some v∧v.cells=cs∧(P.info? E).map (·.size)=some sz∧Sc P E
theorem ff{parts:Array (Nat×Operand)}{cs0:Array Value}{n sz:Nat}{cs:List Value}(hB:Ba P T n sz cs0)(hf:Instr.fill (fun i=>some (i*sz,sz)) cs0 (parts.toList.map fun p=>(p.1,ev t p.2))=some cs.toArray):
 Rv P ⟨d,.build T parts,ty,ps,af,g⟩ t w (.agg cs.toArray):=by
 obtain⟨E,v,h1,h2,h3,h4,_⟩:=hB
 unfold Rv
 cases hi:P.info? T with
 |none=>simp[hi]at h2
 |some i=>
  have hz:i.zero=some v:=by simpa [hi] using h2
  have hzv:(zeroValue T).run P w= .ok v w:=by simp[zeroValue,typeInfo,hi,hz]
  cases hj:P.info? E with
  |none=>simp[hj]at h4
  |some j=>
   have hs:j.size=sz:=by simpa [hj] using h4
   have hsz:(sizeOf E).run P w= .ok sz w:=by simp[sizeOf,typeInfo,hj,hs]
   have e:(Array.map (fun x=>match x with|(i,x)=>(i,ev t x)) parts).toList=parts.toList.map fun p=>(p.1,ev t p.2):=j_
   have hfl:Instr.fill (fun i=>some (i*sz,sz)) v.cells (Array.map (fun x=>match x with|(i,x)=>(i,ev t x)) parts).toList=some cs.toArray:=by
    rw[e,h3];exact hf
   simp only[execOp,Instr.build,Sem.run_bind,hzv,Result.andThen_ok,run_underlying h1,hsz,hfl]
   rfl
theorem ug{k:IntKind}{n:Nat}{i:Int}{cs0 cs:Array Value}{v:Value}(hB:Ba P T n 1 cs0)(hx:ev t x= .agg cs)(hy:ev t y= .int k i)(h0:0≤i)(h1:i<n)(hv:cs[i.toNat]? =some v):
 Rv P ⟨d,.index T x y,ty,ps,af,g⟩ t w v:=by
 obtain⟨E,z,h2,h3,h4,h5,D,h6,h7⟩:=hB
 unfold Rv
 cases hj:P.info? E with
 |none=>simp[hj]at h5
 |some j=>
  have hs:j.size=1:=by simpa [hj] using h5
  have hsz:(sizeOf E).run P w= .ok 1 w:=by simp[sizeOf,typeInfo,hj,hs]
  have hagg:(isAgg E).run P w= .ok false w:=by
   unfold isAgg
   rw[Sem.run_bind,run_underlying h6 w]
   cases D<;>simp_all
  have hp:(part E cs (i.toNat*1)).run P w= .ok v w:=by
   simp[part,Sem.run_bind,hagg,hv]
  simp only[execOp,hx,hy,Instr.index,asIntOf,Sem.run_bind,Sem.run_pure,Result.andThen_ok,run_underlying h2,h0,h1,and_self,Nw,hsz,hp]
def sat(s:ByteArray)(i:Int):Int:=((s.data.getD i.toNat 0).toNat:Nat)
theorem mY{k:IntKind}{s:ByteArray}{i:Int}(hT:P.underlying T=some .string)(hx:ev t x= .string s)(hy:ev t y= .int k i)(h0:0≤i)(h1:i<(s.size:Int)):Rv P ⟨d,.index T x y,ty,ps,af,g⟩ t w (.int .u8 (sat s i)):=by
 have hlt:i.toNat<s.size:=a_
 have hlt':i.toNat<s.data.size:=hlt
 have hg:s[i.toNat]? =some (s[i.toNat]'hlt):=getElem?_pos s i.toNat hlt
 have hv:sat s i=((s[i.toNat]'hlt).toNat:Nat):=by
  unfold sat;rw[LG,La hlt'];rfl
 unfold Rv
 simp[execOp,hx,hy,Instr.index,asIntOf,run_underlying hT,Sem.run_bind,h0,hg,hv]
theorem uh{s:ByteArray}{TS:Array TypeId}(hT:(TS[0]?).bind P.underlying=some .string)(hx:ev t x= .string s):Rv P ⟨d,.call ⟨.builtin .len,#[x],TS⟩,ty,ps,af,g⟩ t w (.int .i64 s.size):=by
 cases h0:TS[0]? with
 |none=>simp[h0]at hT
 |some T0=>
  have hT':P.underlying T0=some .string:=aaR
  unfold Rv
  simp[execOp,resolve,invoke,builtin,hx,Builtin.len_,h0,run_underlying hT',goInt,go_sem]
end
def cB{α:Type}(lo n:Nat)(m l:List α):List α:=l.take lo++m.take n++l.drop (lo+(m.take n).length)
theorem mj{α:Type}{lo n:Nat}(m:List α){l:List α}(h:lo+n≤l.length):(cB lo n m l).length=l.length:=by
 simp[cB];omega
@[simp] theorem YR {α:Type} (m l:List α):(cB 0 l.length m l).length=l.length:=mj m j_
section
variable{P:Program}{ρ:Option Nat}{N:Nat}{Q:Exit→Fr→World→Prop}{t:Fr}{w w0:World}{X:Nat→Prop}{L M:List Rs}{R:Value→World→Prop}{d:Option Nat}{ty T T' K E:TypeId}{ps:String}{af:Array Edge}{g:Option (Nat×Bool)}{x y z:Operand}{α:Type}
theorem all_map{e:bm α}(he:e.sz=1):∃f:α→Value,∀l,e.all l=l.map f:=by
 refine⟨fun a=>(e.en a).headD undef,fun l=>?_⟩
 induction l with
 |nil=>rfl
 |cons a l ih=>
  rw[ι,←ih]
  simp only[bm.all,KT]
  have h:=e.len a
  rw[he]at h
  match hh:e.en a,h with
  | [v],_=>rfl
theorem B3{e:bm α}{E:TypeId}{v:Value}{l:List α}(h:(Rs.own e E v l).inv w)(hl:0<l.length):
 ∃b cap cur,v= .slice (some ⟨b,0,none⟩) l.length cap∧w.heap[b]? =some (.cells cur E (0,0))∧l.length≤cap∧cap≤maxLen∧cur.size=cap*e.sz∧cur.toList.take (l.length*e.sz)=e.all l:=by
 rcases h.2 with⟨_,h3⟩|⟨b,cap,cur,hv,_,hh,h4,h5,h6,h7⟩
 ·omega
 exact⟨b,cap,cur,hv,hh,h4,h5,h6,h7⟩
theorem N2{A vs B:List Value}{lo n:Nat}(hB:A.take n=B)(hn:B.length=n)(h:lo+vs.length≤n):
 (A.take lo++vs++A.drop (lo+vs.length)).take n=B.take lo++vs++B.drop (lo+vs.length):=by
 obtain⟨C,rfl⟩:∃C,A=B++C:=⟨A.drop n,by rw[←hB,Nr]⟩
 have e1:(B++C).take lo=B.take lo:=Lj a_
 have e2:(B++C).drop (lo+vs.length)=B.drop (lo+vs.length)++C:=List.drop_append_of_le_length a_
 rw[e1,e2,←DX]
 exact NT l_
theorem M9{e:bm α}(he:e.sz=1){E:TypeId}{b cap:Nat}{cur:Array Value}{l m:List α}{lo n:Nat}(hh:w.heap[b]? =some (.cells cur E (0,0)))(h4:l.length≤cap)(h5:cap≤maxLen)(h6:cur.size=cap*e.sz)(h7:cur.toList.take (l.length*e.sz)=e.all l)(hlo:lo+n≤l.length):(Rs.own e E (.slice (some ⟨b,0,none⟩) l.length cap) (cB lo n m l)).inv (w.setCells b lo (e.all (m.take n))):=by
 obtain⟨f,hf⟩:=all_map he
 rw[he,EI]at h6 h7
 have hl:(cB lo n m l).length=l.length:=mj m hlo
 have hk:(e.all (m.take n)).length=(m.take n).length:=by rw[hf];simp
 have hset:=qE (e.all (m.take n)) lo cur w (show(Rs.blk b cur E).inv w from hh)
 have hle:(m.take n).length≤n:=l_
 refine⟨e.fC _,.inr ⟨b,cap,kD cur lo (e.all (m.take n)),by rw[hl],jc _,hset,by rw[hl];exact h4,h5,by rw[Dh,he,EI];exact h6,?_⟩⟩
 rw[he,EI,hl,uA _ _ _ (by rw[hk];omega),N2 h7 (by rw[hf];simp) (by rw[hk];omega),hk]
 rw[hf,hf,hf]
 simp[cB,aaA,List.map_drop]
theorem xw{e:bm α}(he:e.sz=1){by_:Nat}{zz:Value}{E':TypeId}{v u:Value}{l m:List α}{F:Nat→Prop}{lo n:Nat}(hT:Sl P T E e.sz by_ zz)(hv:(Rs.own e E' v l).inv w)(hu:Rd (.of e) w F u m)(hlo:lo+n≤l.length){dv:Value}(hd:∃c,dv= .slice (match v with| .slice p _ _=>if c=0 then p else p.map (·.add (lo*1))|_=>none) n c∧(c=0→n=0)):
 ∃w',(Builtin.copy_ #[T,T] ty #[dv,u]).run P w= .ok (.int .i64 (min m.length n:Nat)) w'∧(Rs.own e E' v (cB lo n m l)).inv w'∧Ch (Rs.own e E' v l).fp w w':=by
 obtain⟨t1,i,t2,t3,t4,t5,t6,t7⟩:=hT
 have hsz:(P.info? E).map (·.size)=some 1:=by rw[t2];simp[t3,he]
 obtain⟨c,rfl,hc0⟩:=hd
 obtain⟨p,cu,h1,h2,h3,h4⟩:=id hu
 by_cases hz:min m.length n=0
 ·refine⟨w,?_,?_,.refl _ _⟩
  ·rw[h1,run_copy_none (P:=P) w T T ty E _ _ _ _ _ _ t1 hsz (by exact hz)]
   rw[hz];rfl
  have:cB lo n m l=l:=by
   have:m.take n=[]:=by
    rcases Rk.1 hz with h|h
    ·rw[IJ.1 h];simp
    rw[h];simp
   simp[cB,this]
  rw[this];exact hv
 have hn0:0<n:=a_
 have hm0:0<m.length:=a_
 have hc:c≠0:=fun h=>by have:=hc0 h;omega
 obtain⟨b,cap,cur,hv',hh,k4,k5,k6,k7⟩:=B3 hv a_
 subst hv'
 cases p with
 |none=>
  rcases h4 with⟨h4,_⟩|⟨b',o,h4,_⟩
  ·subst h4;simp at hm0
  cases h4
 |some a=>
  obtain⟨_,hcells⟩:=hu.cells t7 h1
  obtain⟨f,hf⟩:=all_map he
  have hlen:(e.all (m.take n)).length=Nat.min m.length n:=by rw[hf];simp;exact Nat.min_comm _ _
  have hlen':(e.all (m.take n)).length≤n:=by rw[hlen];exact Nat.min_le_right _ _
  have hk6:cur.size=cap:=by rw[k6,he,EI]
  have hblk:(Rs.blk b cur E').inv w:=hh
  have hr:=run_copy_cells (P:=P) w T T ty E b lo n c a m.length cu (e.all (m.take n)) t1 hsz hlen
   (fun j x hx=>hcells j x (by
    have hj:=(χ.1 hx).1
    rw[hf]at hx⊢
    rw[aaA,Ac]at hx
    split at hx
    ·exact hx
    cases hx))
   (fun j hj=>by rw[ak hblk (La a_)];rfl) (fun j hj=>dR hblk) (fun x hx=>e.sB _ x hx)
  refine⟨w.setCells b lo (e.all (m.take n)),?_,M9 he hh k4 k5 k6 k7 hlo,?_⟩
  ·rw[h1]
   simp only[I_ hc,NS,Addr.add_mid,EI,FW]
   rw[hr,hlen];rfl
  exact(qJ (b:=b) (e.all (m.take n)) lo w).mono fun x _ hx=>by show(some b:Option Nat)=some x;rw[hx]
theorem uL{e:bm α}{by_:Nat}{zz:Value}{E':TypeId}{v u:Value}{l m:List α}{F:Nat→Prop}(hT:Sl P T E e.sz by_ zz)(H:St X w0 w L)(q:Nat)(hq:L[q]? =some (.own e E' v l))(hu:Rd (.of e) w F u m)(hx:ev t x=v)(hy:ev t y=u)(h:∀w',St X w0 w' (L.set q (.own e E' v (cB 0 l.length m l)))→R (.int .i64 (min m.length l.length:Nat)) w')(he:e.sz=1:=by rfl):Yd P ρ N ⟨d,.call ⟨.builtin .copy,#[x,y],#[T,T]⟩,ty,ps,af,g⟩ t w R:=by
 have hv:=H.Gt q hq
 have hd:∃c,v= .slice (match v with| .slice p _ _=>if c=0 then p else p.map (·.add (0*1))|_=>none) l.length c∧(c=0→l.length=0):=by
  rcases hv.2 with⟨h3,h4⟩|⟨b,cap,cur,h3,_,_,h4,_⟩
  ·rw[h3,h4];exact⟨0,by simp,fun _=>rfl⟩
  rw[h3];refine⟨cap,?_,fun h=>by omega⟩
  by_cases hc:cap=0
  ·simp[hc]
  simp[hc,Addr.add_mid]
 obtain⟨w',h1,h2,h3⟩:=xw (ty:=ty) he hT hv hu (lo:=0) (n:=l.length) (by omega) hd
 refine eD (v:= .int .i64 (min m.length l.length:Nat)) (w':=w') ?_ (h w' (H.put q hq h3 h2 (fun b hb=> .inl hb)))
 simp only[execOp,resolve,invoke,Sem.run_bind,Sem.run_pure,Result.andThen_ok,List.map_toArray,List.map_cons,List.map_nil,hx,hy]
 simp only[builtin,Sem.run_bind,h1];rfl
theorem QZ{e:bm α}{by_:Nat}{zz:Value}{E':TypeId}{v u:Value}{l m:List α}{F:Nat→Prop}{lo hi:Nat}(h0:lo≤hi)(h1:hi≤l.length)(hT:Sl P T E e.sz by_ zz)(H:St X w0 w L)(q:Nat)(hq:L[q]? =some (.own e E' v l))(hu:Rd (.of e) w F u m)(hx:ev t x=bz v lo hi 1)(hy:ev t y=u)(h:∀w',St X w0 w' (L.set q (.own e E' v (cB lo (hi-lo) m l)))→R (.int .i64 (min m.length (hi-lo):Nat)) w')(he:e.sz=1:=by rfl):Yd P ρ N ⟨d,.call ⟨.builtin .copy,#[x,y],#[T,T]⟩,ty,ps,af,g⟩ t w R:=by
 have hv:=H.Gt q hq
 have hd:∃c,bz v lo hi 1= .slice (match v with| .slice p _ _=>if c=0 then p else p.map (·.add (lo*1))|_=>none) (hi-lo) c∧(c=0→hi-lo=0):=by
  rcases hv.2 with⟨h3,h4⟩|⟨b,cap,cur,h3,_,_,h4,_⟩
  ·rw[h3];refine⟨0-lo,?_,fun _=>by omega⟩
   have:lo=0:=by omega
   subst this;simp[bz]
  rw[h3];refine⟨cap-lo,?_,fun h=>by omega⟩
  by_cases hc:cap=lo
  ·simp[bz,hc]
  have:¬cap-lo=0:=by omega
  simp[bz,hc,this]
 obtain⟨w',h1',h2,h3⟩:=xw (ty:=ty) he hT hv hu (lo:=lo) (n:=hi-lo) (by omega) hd
 refine eD (v:= .int .i64 (min m.length (hi-lo):Nat)) (w':=w') ?_ (h w' (H.put q hq h3 h2 (fun b hb=> .inl hb)))
 simp only[execOp,resolve,invoke,Sem.run_bind,Sem.run_pure,Result.andThen_ok,List.map_toArray,List.map_cons,List.map_nil,hx,hy]
 simp only[builtin,Sem.run_bind,h1'];rfl
theorem xW{e:bm α}{by_:Nat}{zz:Value}{E':TypeId}{v u:Value}{l m:List α}{F:Nat→Prop}{lo hi mx:Nat}(h0:lo≤hi)(hm:hi≤mx)(h1:mx≤l.length)(hT:Sl P T E e.sz by_ zz)(H:St X w0 w L)(q:Nat)(hq:L[q]? =some (.own e E' v l))(hu:Rd (.of e) w F u m)(hx:ev t x=cq v lo hi mx 1)(hy:ev t y=u)(h:∀w',St X w0 w' (L.set q (.own e E' v (cB lo (hi-lo) m l)))→R (.int .i64 (min m.length (hi-lo):Nat)) w')(he:e.sz=1:=by rfl):Yd P ρ N ⟨d,.call ⟨.builtin .copy,#[x,y],#[T,T]⟩,ty,ps,af,g⟩ t w R:=by
 have hv:=H.Gt q hq
 have hd:∃c,cq v lo hi mx 1= .slice (match v with| .slice p _ _=>if c=0 then p else p.map (·.add (lo*1))|_=>none) (hi-lo) c∧(c=0→hi-lo=0):=by
  refine⟨mx-lo,?_,fun h=>by omega⟩
  rcases hv.2 with⟨h3,h4⟩|⟨b,cap,cur,h3,_,_,h4,_⟩
  ·rw[h3];simp[cq]
  rw[h3]
  by_cases hc:mx=lo
  ·simp[cq,hc]
  have:¬mx-lo=0:=by omega
  simp[cq,hc,this]
 obtain⟨w',h1',h2,h3⟩:=xw (ty:=ty) he hT hv hu (lo:=lo) (n:=hi-lo) (by omega) hd
 refine eD (v:= .int .i64 (min m.length (hi-lo):Nat)) (w':=w') ?_ (h w' (H.put q hq h3 h2 (fun b hb=> .inl hb)))
 simp only[execOp,resolve,invoke,Sem.run_bind,Sem.run_pure,Result.andThen_ok,List.map_toArray,List.map_cons,List.map_nil,hx,hy]
 simp only[builtin,Sem.run_bind,h1'];rfl
theorem eZ{id n:Nat}{l:List Oper}{ds:List Nat}(S:World→Prop)(hm:P.follows .mixedOrders=true)(_H:St X w0 w L)(hn:l.length=n){l0:Array Bool}(hl:Array.replicate n false=l0)(h:Wa P ρ N l.toArray Q S ds n l0 t w.drew):Wc P ρ N Q (.region id l.toArray true) t w:=by subst hl;exact DW hm hn h
theorem OP{κ:Kd α}{E by_:Nat}{zz:Value}{F:Nat→Prop}{v:Value}{l l':List α}{lo:Int}{k:IntKind}(e:l'.length=l.length)(hT:Sl P T E κ.sz by_ zz)(h:Rd κ w F v l')(hx:ev t x=v)(hy:ev t y= .int k lo)(h1:0≤lo)(h2:lo≤l.length):
 Rv P ⟨d,.slice T x (some y) none none,ty,ps,af,g⟩ t w (bz v lo.toNat l.length κ.sz):=by
 rw[←e]at h2⊢;exact iW hT h hx hy h1 h2
theorem ON{κ:Kd α}{E by_:Nat}{zz:Value}{F:Nat→Prop}{v:Value}{l l':List α}{hi:Int}{k':IntKind}(e:l'.length=l.length)(hT:Sl P T E κ.sz by_ zz)(h:Rd κ w F v l')(hx:ev t x=v)(hz:ev t z= .int k' hi)(h1:0≤hi)(h2:hi≤l.length):
 Rv P ⟨d,.slice T x none (some z) none,ty,ps,af,g⟩ t w (bz v 0 hi.toNat κ.sz):=by
 rw[←e]at h2;exact fU hT h hx hz h1 h2
theorem Fh{e:bm α}{E':TypeId}{v:Value}{l:List α}(hv:(Rs.own e E' v l).inv w){lo hi mx n:Nat}(h0:lo<hi)(hm:hi≤mx)(h1:mx≤l.length):eo (cq v lo hi mx 1) n=eo v (lo+n):=by
 obtain⟨b,cap,cur,hv',hh,k4,k5,k6,k7⟩:=B3 hv a_
 subst hv'
 have:¬mx=lo:=a_
 simp[cq,eo,this,Addr.add_mid]
theorem Ra{E:TypeId}{k:IntKind}{v:Value}{l:List Int}{i u:Int}{lo hi mx:Nat}(hT:Sz P T 1)(H:St X w0 w L)(q:Nat)(hk:L[q]? =some (.own (.int k) E v l))(p1:lo≤hi)(p3:hi≤mx)(p2:mx≤l.length)(h0:0≤i)(h1:i<(((l.take hi).drop lo).length:Int))(hx:ev t x= .pointer (eo (cq v lo hi mx 1) (i.toNat*1)))(hy:ev t y= .int k u)(h:∀w',St X w0 w' (L.set q (.own (.int k) E v (l.set (lo+i.toNat) u)))→R undef w'):Yd P ρ N ⟨d,.store T x y,ty,ps,af,g⟩ t w R:=by
 have h1':i<(hi-lo:Nat):=by simpa [Nl (Lh p3 p2)] using h1
 rw[Fh (H.Gt q hk) a_ p3 p2]at hx
 have e:(((lo:Int)+i).toNat)=lo+i.toNat:=a_
 refine dc (i:=(lo:Int)+i) hT H q hk a_ a_ (by rw[hx,e,EI,EI]) hy (fun w' H=>h w' (by rw[e]at H;exact H))
end
def Rs.mf(b:Nat)(l:List (Value×Value)):Rs where
 fp:=fun x=>x=b
 inv:=fun w=>∃es clock,w.heap[b]? =some (.map es clock)∧es.toList.map (fun e=>(e.key,e.val))=l
 loc:=fun w w' h ⟨es,c,hb,hl⟩=>⟨es,c,(h b rfl).trans hb,hl⟩
 bd:=fun w ⟨es,c,h,_⟩ x e=>by subst e;exact(ER.1 h).1
theorem bb(a b:ByteArray):(a==b)=decide (a=b):=by
 cases a with|mk x=>cases b with|mk y=>
 have h:(ByteArray.mk x==ByteArray.mk y)=(x==y):=rfl
 rw[h]
 by_cases e:x=y
 ·subst e;simp
 simp[e]
def mJ(a:Int):List (Value×Value)→Value
 |(.int .i64 b,v)::l=>bif decide (a=b)then v else mJ a l
 |_=> .nilFunc
def kt(a:ByteArray):List (Value×Value)→Value
 |(.string b,v)::l=>bif decide (a=b)then v else kt a l
 |_=> .nilFunc
def vO:List (Value×Value)→Bool
 | []=>true
 |(.int .i64 _,_)::l=>vO l
 |_=>false
def xF:List (Value×Value)→Bool
 | []=>true
 |(.string _,_)::l=>xF l
 |_=>false
def tN(a:Int):List (Value×Value)→Bool
 | []=>true
 |(.int .i64 b,_)::l=>!decide (a=b)&&tN a l
 |_=>false
def tO(a:ByteArray):List (Value×Value)→Bool
 | []=>true
 |(.string b,_)::l=>!decide (a=b)&&tO a l
 |_=>false
theorem z6(a:Int):∀(es:List MapEntry)(i:Nat),vO (es.map fun e=>(e.key,e.val))=true→∃r,Instr.findNow (.int .i64) (.int .i64 a) es i=some r∧(match r with|some (_,v)=>v|none=> .nilFunc)=mJ a (es.map fun e=>(e.key,e.val))
 | [],i,_=>⟨none,rfl,rfl⟩
 |⟨k,v,bn⟩::es,i,h=>by
  simp only[ι]at h⊢
  match k,h with
  | .int .i64 b,h=>
   obtain⟨r,h1,h2⟩:=z6 a es (i+1) h
   simp only[Instr.findNow,Instr.sameNow,Nw,mJ]
   by_cases hab:a=b
   ·subst hab;simp
   simp only[hab,decide_false,U_]
   have:(a==b)=false:=by simpa using hab
   rw[this];exact⟨r,h1,h2⟩
theorem z7(a:ByteArray):∀(es:List MapEntry)(i:Nat),xF (es.map fun e=>(e.key,e.val))=true→∃r,Instr.findNow .string (.string a) es i=some r∧(match r with|some (_,v)=>v|none=> .nilFunc)=kt a (es.map fun e=>(e.key,e.val))
 | [],i,_=>⟨none,rfl,rfl⟩
 |⟨k,v,bn⟩::es,i,h=>by
  simp only[ι]at h⊢
  match k,h with
  | .string b,h=>
   obtain⟨r,h1,h2⟩:=z7 a es (i+1) h
   simp only[Instr.findNow,Instr.sameNow,kt,bb]
   by_cases hab:a=b
   ·subst hab;simp
   simp only[hab,decide_false,U_]
   exact⟨r,h1,h2⟩
theorem Bw(a:Int):∀(es:List MapEntry)(i:Nat),tN a (es.map fun e=>(e.key,e.val))=true→Instr.findNow (.int .i64) (.int .i64 a) es i=some none
 | [],i,_=>rfl
 |⟨k,v,bn⟩::es,i,h=>by
  simp only[ι]at h
  match k,h with
  | .int .i64 b,h=>
   simp only[tN,S_,Ox,decide_eq_false_iff_not]at h
   have:(a==b)=false:=by simpa using h.1
   simp only[Instr.findNow,Instr.sameNow,Nw,this]
   exact Bw a es (i+1) h.2
theorem Bx(a:ByteArray):∀(es:List MapEntry)(i:Nat),tO a (es.map fun e=>(e.key,e.val))=true→Instr.findNow .string (.string a) es i=some none
 | [],i,_=>rfl
 |⟨k,v,bn⟩::es,i,h=>by
  simp only[ι]at h
  match k,h with
  | .string b,h=>
   simp only[tO,S_,Ox,decide_eq_false_iff_not]at h
   have:(a==b)=false:=by rw[bb];simpa using h.1
   simp only[Instr.findNow,Instr.sameNow,this]
   exact Bx a es (i+1) h.2
section
variable{P:Program}{ρ:Option Nat}{N:Nat}{Q:Exit→Fr→World→Prop}{t:Fr}{w w0:World}{X:Nat→Prop}{L M:List Rs}{R:Value→World→Prop}{d:Option Nat}{ty T T' K E:TypeId}{ps:String}{af:Array Edge}{g:Option (Nat×Bool)}{x y z:Operand}{α:Type}
theorem Ea(H:St X w0 w L)(h:∀b w',St X w0 w' (L++[.mf b []])→R (.map (some b)) w'):Yd P ρ N ⟨d,.makeMap T none,ty,ps,af,g⟩ t w R:=
 eD (v:= .map (some w.heap.size)) (w':=w.alloc (.map #[] 0)) aa6
  (h _ _ (H.new (.alloc _ _ _) ⟨#[],0,FO,rfl⟩ (fun b e=>by simp only[Rs.mf]at e;omega)))
theorem yV{D:TypeDesc}(hK:P.underlying K=some D)(hD:D= .int .i64∨D= .string)(n:Nat)(c:Bool)(k:Value):(Instr.checkKey c (n+1) K k).run P w= .ok () w:=by
 rcases hD with rfl|rfl<;>simp[Instr.checkKey,run_underlying hK,Sem.run_bind]
theorem AV{b:Nat}{l:List (Value×Value)}{k v:Value}{D:TypeDesc}(hK:P.underlying K=some D)(hT:P.underlying T=some (.map K E))(hD:D= .int .i64∨D= .string)(hm:(Rs.mf b l).inv w)(hf:∀es:List MapEntry,es.map (fun e=>(e.key,e.val))=l→Instr.findNow D k es 0=some none):
 ∃w',(Instr.mapUpdate T (.map (some b)) k v).run P w= .ok () w'∧(Rs.mf b (l++[(k,v)])).inv w'∧Ch (fun x=>x=b) w w':=by
 obtain⟨es,c,hb,hl⟩:=hm
 have hck:(Instr.checkKey false 10000 K k).run P w= .ok () w:=yV hK hD 9999 _ _
 have hfk:(Instr.findKey K k es.toList).run P w= .ok none w:=by
  simp[Instr.findKey,run_underlying hK,Sem.run_bind,hf es.toList hl]
 have hlt:=(ER.1 hb).1
 refine⟨{w with heap:=w.heap.setIfInBounds b (.map (es.push {key:=k,val:=v,born:=c}) (c+1))},?_,⟨es.push {key:=k,val:=v,born:=c},c+1,?_,?_⟩,?_⟩
 ·simp[Instr.mapUpdate,run_underlying hT,Sem.run_bind,MapKept.run_getObj_map hb,hck,hfk,MapKept.run_setObj_map _ hb,Result.andThen]
 ·simp[hlt]
 ·simp[hl]
 refine⟨rfl,rfl,rfl,j_,fun x hx hne=>?_⟩
 have hne':¬b=x:=fun e=>hne e.symm
 simp[aa1,hne']
theorem xY{b:Nat}{l:List (Value×Value)}{a:Int}{v:Value}(hK:P.underlying K=some (.int .i64))(hT:P.underlying T=some (.map K E))(H:St X w0 w L)(q:Nat)(hq:L[q]? =some (.mf b l))(hx:ev t x= .map (some b))(hy:ev t y= .int .i64 a)(hz:ev t z=v)(hn:tN a l=true)(h:∀w',St X w0 w' (L.set q (.mf b (l++[(.int .i64 a,v)])))→R undef w'):Yd P ρ N ⟨d,.insert T x y z,ty,ps,af,g⟩ t w R:=by
 obtain⟨w',h1,h2,h3⟩:=AV (v:=v) hK hT (.inl rfl) (H.Gt q hq) (fun es he=>Bw a es 0 (he▸hn))
 refine uO (w':=w') ?_ (h _ (H.put q hq h3 h2 (fun _ e=> .inl e)))
 simp only[execOp,hx,hy,hz,Sem.run_bind,h1];rfl
theorem lb{b:Nat}{l:List (Value×Value)}{a:ByteArray}{v:Value}(hK:P.underlying K=some .string)(hT:P.underlying T=some (.map K E))(H:St X w0 w L)(q:Nat)(hq:L[q]? =some (.mf b l))(hx:ev t x= .map (some b))(hy:ev t y= .string a)(hz:ev t z=v)(hn:tO a l=true)(h:∀w',St X w0 w' (L.set q (.mf b (l++[(.string a,v)])))→R undef w'):Yd P ρ N ⟨d,.insert T x y z,ty,ps,af,g⟩ t w R:=by
 obtain⟨w',h1,h2,h3⟩:=AV (v:=v) hK hT (.inr rfl) (H.Gt q hq) (fun es he=>Bx a es 0 (he▸hn))
 refine uO (w':=w') ?_ (h _ (H.put q hq h3 h2 (fun _ e=> .inl e)))
 simp only[execOp,hx,hy,hz,Sem.run_bind,h1];rfl
theorem Bn{b:Nat}{l:List (Value×Value)}{k v:Value}{D:TypeDesc}(hK:P.underlying K=some D)(hT:P.underlying T=some (.map K E))(hD:D= .int .i64∨D= .string)(hE:(P.info? E).bind (·.zero)=some .nilFunc)(hm:(Rs.mf b l).inv w)(hf:∀es:List MapEntry,es.map (fun e=>(e.key,e.val))=l→∃r,Instr.findNow D k es 0=some r∧(match r with|some (_,v)=>v|none=> .nilFunc)=v):(Instr.lookup T (.map (some b)) k false).run P w= .ok v w:=by
 obtain⟨es,c,hb,hl⟩:=hm
 have hck:∀e,(Instr.checkKey e 10000 K k).run P w= .ok () w:=fun e=>yV hK hD 9999 _ _
 obtain⟨r,h1,h2⟩:=hf es.toList hl
 have hfk:(Instr.findKey K k es.toList).run P w= .ok r w:=by
  simp[Instr.findKey,run_underlying hK,Sem.run_bind,h1]
 have hz:(zeroValue E).run P w= .ok .nilFunc w:=by
  cases hi:P.info? E with
  |none=>simp[hi]at hE
  |some i=>simp[hi]at hE;simp[zeroValue,typeInfo,hi,hE]
 match r,h2 with
 |some (i,u),h2=>simp only at h2;subst h2;simp[Instr.lookup,run_underlying hT,Sem.run_bind,MapKept.run_getObj_map hb,hck,hfk,Result.andThen]
 |none,h2=>simp only at h2;subst h2;simp[Instr.lookup,run_underlying hT,Sem.run_bind,MapKept.run_getObj_map hb,hck,hfk,hz,Result.andThen]
theorem ui{b:Nat}{l:List (Value×Value)}{a:Int}{v:Value}(hK:P.underlying K=some (.int .i64))(hT:P.underlying T=some (.map K E))(hE:(P.info? E).bind (·.zero)=some .nilFunc)(hm:(Rs.mf b l).inv w)(hx:ev t x= .map (some b))(hy:ev t y= .int .i64 a)(hks:vO l=true)(hv:mJ a l=v):
 Rv P ⟨d,.lookup T x y false,ty,ps,af,g⟩ t w v:=by
 have h:=Bn (k:= .int .i64 a) (v:=v) hK hT (.inl rfl) hE hm (fun es he=>by rw[←hv,←he];exact z6 a es 0 (by rw[he];exact hks))
 unfold Rv;simp only[execOp,hx,hy,Sem.run_bind,h];rfl
theorem ou{b:Nat}{l:List (Value×Value)}{a:ByteArray}{v:Value}(hK:P.underlying K=some .string)(hT:P.underlying T=some (.map K E))(hE:(P.info? E).bind (·.zero)=some .nilFunc)(hm:(Rs.mf b l).inv w)(hx:ev t x= .map (some b))(hy:ev t y= .string a)(hks:xF l=true)(hv:kt a l=v):
 Rv P ⟨d,.lookup T x y false,ty,ps,af,g⟩ t w v:=by
 have h:=Bn (k:= .string a) (v:=v) hK hT (.inr rfl) hE hm (fun es he=>by rw[←hv,←he];exact z7 a es 0 (by rw[he];exact hks))
 unfold Rv;simp only[execOp,hx,hy,Sem.run_bind,h];rfl
def Ar(P:Program)(T:TypeId)(n sz:Nat):Prop:=∃E,P.underlying T=some (.array n E)∧(P.info? E).map (·.size)=some sz
theorem dm{n sz b o:Nat}{k:IntKind}{i:Int}(hT:Ar P T n sz)(hx:ev t x= .pointer (some ⟨b,o,none⟩))(hy:ev t y= .int k i)(h0:0≤i)(h1:i<n):Rv P ⟨d,.indexAddr T x y,ty,ps,af,g⟩ t w (.pointer (some ⟨b,o+i.toNat*sz,none⟩)):=by
 obtain⟨E,h2,h3⟩:=hT
 cases hj:P.info? E with
 |none=>simp[hj]at h3
 |some j=>
  have hs:j.size=sz:=by simpa [hj] using h3
  unfold Rv
  simp[execOp,hx,hy,Instr.indexAt,Instr.sureAddr,run_underlying h2,sizeOf,typeInfo,hj,hs,h0,h1,Addr.add_mid,go_sem]
theorem xi{T0:TypeId}{v:Value}(hx:ev t x= .iface T0 v):Rv P ⟨d,.nilCheck x,ty,ps,af,g⟩ t w (.iface T0 v):=by
 unfold Rv;simp only[execOp,hx];rfl
theorem jZ{f:FuncId}{T0:TypeId}{nm:String}{v rv:Value}{xs:Array Operand}{ats:Array TypeId}{vs:List Value}(hm:∀w,(Go.method (P.types.size+Made.depth) T0 v nm).run P w= .ok (f,rv) w)(hf:En P f)(hx:ev t x= .iface T0 v)(hv:rv::xs.toList.map (ev t)=vs)(h:Calls P f vs.toArray w fun e w''=>∃v,e= .returned v∧R v w''):Yd P ρ N ⟨d,.call ⟨.invoke x nm,xs,ats⟩,ty,ps,af,g⟩ t w R:=by
 refine uM (f:=f) (args:=vs.toArray) (w':=w) ?_ h
 have e1:(#[ev t x]++xs.map (ev t)).extract 1 (#[ev t x]++xs.map (ev t)).size=xs.map (ev t):=by
  apply EZ;simp
  exact D_ j_
 have e2:#[rv]++xs.map (ev t)=vs.toArray:=Lc
 have e3:(#[ev t x]++xs.map (ev t))[0]? =some (.iface T0 v):=by rw[hx,Array.getElem?_append_left j_];rfl
 simp only[execOp,resolve,invoke,Sem.run_bind,Sem.run_pure,Result.andThen_ok,e3,e1]
 simp only[callMethod,Sem.run_bind,run_program,Result.andThen_ok,hm,e2,uz hf]
theorem QR{e:bm α}{by_:Nat}{zz:Value}{z0:α}{n:Int}{kn k:IntKind}(hT:Sl P T E e.sz by_ zz)(hn:P.underlying T'=some (.int kn))(hz:zz.cells.toList=e.en z0)(H:St X w0 w L)(hx:ev t x= .slice none 0 0)(hy:ev t y= .int k n)(h0:0<n)(hb:(by_:Int)*n≤140737488355328)(h:∀v w',St X w0 w' (L++[.own e E v (List.replicate n.toNat z0)])→R v w')(hb1:0<by_:=by decide):Yd P ρ N ⟨d,.call ⟨.builtin .append,#[x,y],#[T,T']⟩,ty,ps,af,g⟩ t w R:=by
 obtain⟨t1,i,t2,t3,t4,t5,t6,t7⟩:=hT
 obtain⟨m,rfl⟩:∃m:Nat,n=m:=⟨n.toNat,by omega⟩
 have hb':by_*m≤140737488355328:=by
  have:((by_*m:Nat):Int)≤140737488355328:=by rw[Int.natCast_mul];exact hb
  omega
 have hm:m≤by_*m:=Nat.le_mul_of_pos_left m hb1
 have hr:=Lib.run_append_nil_zeros (P:=P) w T T' ty E i zz k kn t1 hn t2 t5 m (by omega) (by rw[t3];exact t7) (by omega) (by rw[t4,Nat.mul_comm];omega)
 have hg:=grownCap_ge w m 0 E
 have hgm:=grownCap_le_maxLen w m 0 E (by unfold maxLen;omega)
 have zc:∀n,Builtin.zeroCells zz.cells n=madeCells zz.cells (n*e.sz):=fun n=>by
  unfold Builtin.zeroCells madeCells;rw[t6]
 refine eD (v:= .slice (some ⟨w.heap.size,0,none⟩) m (grownCap w m 0 E)) (w':=w.drew.alloc (.cells (Builtin.zeroCells zz.cells m++Builtin.zeroCells zz.cells (grownCap w m 0 E-m)) E)) ?_ (h _ _ ((H.drew).new (.alloc _ _ _) ?_ ?_))
 ·simp only[execOp,resolve,invoke,Sem.run_bind,Sem.run_pure,Result.andThen_ok,List.map_toArray,List.map_cons,List.map_nil,hx,hy]
  simp only[builtin,Sem.run_bind,hr];rfl
 ·have hlen:(List.replicate (m:Int).toNat z0).length=m:=by simp
  refine⟨e.fC _,.inr ⟨w.heap.size,grownCap w m 0 E,Builtin.zeroCells zz.cells m++Builtin.zeroCells zz.cells (grownCap w m 0 E-m),by rw[hlen],Nat.zero_le _,?_,by rw[hlen];exact hg,hgm,?_,?_⟩⟩
  ·show(w.drew.heap.push _)[w.heap.size]? =_
   have:w.drew.heap=w.heap:=rfl
   rw[this];simp
  ·rw[Array.size_append,zc,zc,size_madeCells,size_madeCells,←Nat.add_mul];congr 1;omega
  rw[hlen,Array.toList_append,zc,List.take_left' (by rw[Array.length_toList,size_madeCells])]
  rw[CU e z0 zz t7 hz];simp
 intro b hb
 have:(Value.slice (some ⟨w.heap.size,0,none⟩) m (grownCap w m 0 E)).ownBlock=some b:=hb
 cases this;exact aI _
end
def x2(a:Nat):Nat:=if a<128 then 2*a else(2*a)^^^285
def cN:Nat→Nat→Nat→Nat
 |0,_,_=>0
 |n+1,a,b=>(if b%2=1 then a else 0)^^^cN n (x2 a) (b/2)
def br(a b:Nat):Nat:=cN 8 a b
def fB(p:Nat→Bool):Bool:=(List.range 256).all p
theorem fM{p:Nat→Bool}(h:fB p=true){a:Nat}(ha:a<256):p a=true:=
 Y_.1 h a (φ.2 ha)
theorem oN{a:Nat}(ha:a<256):x2 a<256:=by
 have:fB (fun a=>Nat.blt (x2 a) 256)=true:=R_
 have h:=fM this ha
 simpa [PR] using h
theorem D4{a b:Nat}(ha:a<256)(hb:b<256):x2 (a^^^b)=x2 a^^^x2 b:=by
 have:fB (fun a=>fB fun b=>Nat.beq (x2 (a^^^b)) (x2 a^^^x2 b))=true:=R_
 exact eF (fM (fM this ha) hb)
theorem D5{a b:Nat}(ha:a<256)(hb:b<256):a^^^b<256:=LH (n:=8) ha hb
theorem AY{c:Prop}[Decidable c]{a:Nat}(ha:a<256):(if c then a else 0)<256:=by split<;>omega
theorem vL:∀(n:Nat){a:Nat}(b:Nat),a<256→cN n a b<256
 |0,_,_,_=>by show 0<256;decide
 |n+1,a,b,ha=>D5 (AY ha) (vL n _ (oN ha))
theorem mz{a:Nat}(b:Nat)(ha:a<256):br a b<256:=vL 8 b ha
theorem pK:∀(n a:Nat),cN n a 0=0
 |0,_=>rfl
 |n+1,a=>by rw[cN];simp[pK n]
theorem qt(a b c:Nat):a^^^(b^^^c)=b^^^(a^^^c):=by rw[←FQ,Nat.xor_comm a b,FQ]
theorem ry:∀(n a b c:Nat),cN n a (b^^^c)=cN n a b^^^cN n a c
 |0,_,_,_=>by simp[cN]
 |n+1,a,b,c=>by
  have h1:(b^^^c)/2=b/2^^^c/2:=by
   have:= @Nat.xor_div_two_pow b c 1;simpa using this
  have h2:(b^^^c)%2=(b%2)^^^(c%2):=by
   have:= @Nat.xor_mod_two_pow b c 1;simpa using this
  rw[cN,cN,cN,h1,ry n,h2]
  have hb:=Gp b
  have hc:=Gp c
  rcases hb with hb|hb<;>rcases hc with hc|hc<;>simp[hb,hc]
  ·exact qt _ _ _
  ·rw[FQ]
  rw[qt,←FQ a,←FQ a,aaJ,LZ]
theorem Ay:∀(n:Nat){a b:Nat}(c:Nat),a<256→b<256→cN n (a^^^b) c=cN n a c^^^cN n b c
 |0,_,_,_,_,_=>by simp[cN]
 |n+1,a,b,c,ha,hb=>by
  rw[cN,cN,cN,D4 ha hb,Ay n _ (oN ha) (oN hb)]
  by_cases h:c%2=1<;>simp[h]
  rw[FQ,FQ,qt b]
theorem QM:x2 0=0:=rfl
theorem xT:∀(n:Nat){a:Nat}(b:Nat),a<256→x2 (cN n a b)=cN n (x2 a) b
 |0,_,_,_=>rfl
 |n+1,a,b,ha=>by
  rw[cN,cN,D4 (AY ha) (vL n _ (oN ha)),xT n _ (oN ha)]
  by_cases h:b%2=1<;>simp[h,QM]
theorem pI{a b:Nat}(ha:a<256)(hb:b<256):br a b=br b a:=by
 have:fB (fun a=>fB fun b=>Nat.beq (br a b) (br b a))=true:=R_
 exact eF (fM (fM this ha) hb)
theorem vK(a b c:Nat):br a (b^^^c)=br a b^^^br a c:=ry 8 a b c
theorem I6{a b:Nat}(c:Nat)(ha:a<256)(hb:b<256):br (a^^^b) c=br a c^^^br b c:=Ay 8 c ha hb
theorem pJ(a:Nat):br a 0=0:=pK 8 a
theorem Av{a:Nat}(ha:a<256):br 0 a=0:=by rw[pI f_ ha,pJ]
theorem mA{a:Nat}:br a 1=a:=by
 simp[br,cN]
theorem kQ{a:Nat}(ha:a<256):br 1 a=a:=by rw[pI f_ ha,mA]
theorem Au{a b:Nat}(ha:a<256)(hb:b<256):br a (x2 b)=x2 (br a b):=by
 rw[pI ha (oN hb),pI ha hb];exact(xT 8 a hb).symm
theorem Aw:∀(n:Nat){a b:Nat}(c:Nat),a<256→b<256→cN n (br a b) c=br a (cN n b c)
 |0,_,_,_,_,_=>by rw[cN,cN,pJ]
 |n+1,a,b,c,ha,hb=>by
  rw[cN,cN,vK,←Au ha hb,Aw n _ ha (oN hb)]
  by_cases h:c%2=1<;>simp[h,pJ]
theorem tj{a b:Nat}(c:Nat)(ha:a<256)(hb:b<256):br (br a b) c=br a (br b c):=Aw 8 c ha hb
def bD(a:Nat):Nat→Nat
 |0=>1
 |k+1=>br (bD a k) a
theorem iP{a:Nat}(ha:a<256):∀k,bD a k<256
 |0=>by show 1<256;decide
 |k+1=>mz _ (iP ha k)
theorem lD{a:Nat}(ha:a<256)(m:Nat):∀n,bD a (m+n)=br (bD a m) (bD a n)
 |0=>by rw[Gy,bD,mA]
 |n+1=>by rw[←ZQ,bD,bD,lD ha m n,tj _ (iP ha m) (iP ha n)]
theorem vM:∀k,bD 1 k=1
 |0=>rfl
 |k+1=>by rw[bD,vM k,mA]
theorem kR{a:Nat}(ha:a<256)(m:Nat):∀n,bD a (m*n)=bD (bD a m) n
 |0=>rfl
 |n+1=>by rw[Nat.mul_succ,lD ha,kR ha m n,bD]
theorem AA{a:Nat}(ha:a<256)(h0:a≠0):bD a 255=1:=by
 have:fB (fun a=>Nat.beq a 0||Nat.beq (bD (bD (bD a 3) 5) 17) 1)=true:=R_
 have h:=fM this ha
 have e:bD a 255=bD (bD (bD a 3) 5) 17:=by rw[←kR (iP ha 3),←kR ha]
 rw[KZ]at h
 rw[e]
 rcases h with h|h
 ·exact absurd (eF h) h0
 exact eF h
theorem nP{a:Nat}(ha:a<256)(h0:a≠0)(k:Nat):bD a (k%255)=bD a k:=by
 conv=>rhs;rw[←Nat.div_add_mod k 255,lD ha,kR ha,AA ha h0,vM]
 rw[kQ (iP ha _)]
def jM(a:Nat):Nat:=bD a 254
theorem I4{a:Nat}(ha:a<256)(h0:a≠0):br a (jM a)=1:=by
 unfold jM;rw[pI ha (iP ha _)];exact AA ha h0
def gm(a b:Int):Int:=(br a.toNat b.toNat:Nat)
def iE(a:Int):Bool:=decide (0≤a∧a<256)
theorem qF{a:Int}:iE a=true↔0≤a∧a<256:=aaB
theorem oW{a:Int}(h:iE a=true):∃n:Nat,a=n∧n<256:=⟨a.toNat,by have:=qF.1 h;omega,by have:=qF.1 h;omega⟩
def nC:List Int:=[0,1,56,2,57,49,28,3,61,58,42,50,38,29,17,4,62,47,59,36,45,43,51,22,53,39,33,30,24,18,12,5,63,55,48,27,60,41,37,16,46,35,44,21,52,32,23,11,54,26,40,15,34,20,31,10,25,14,19,9,13,8,7,6]
class de where
 g:Option Obj
 p:Option Obj
 m:Option Obj
variable[de]
def Rs.gt:Rs where
 fp:=fun x=>x=3
 inv:=fun w=>(∀i x,nC[i]? =some x→w.cell? ⟨3,i,none⟩=some (.int .u8 x))∧w.heap[3]? =de.g
 loc:=fun w w' h ⟨hi,hg⟩=>⟨fun i x hx=>(World.cell?_of_block (w:=w) (a:=⟨3,i,none⟩) (h 3 rfl)).trans (hi i x hx),(h 3 rfl).trans hg⟩
 bd:=fun w h x e=>by
  subst e
  have:=h.1 0 0 rfl
  unfold World.cell? at this
  rcases Me 3 w.heap.size with h'|h'
  ·exact h'
  rw[Nj (by exact h')]at this;cases this
def rD:List Nat:=[0,0,1,25,2,50,26,198,3,223,51,238,27,104,199,75,4,100,224,14,52,141,239,129,28,193,105,248,200,8,76,113,5,138,101,47,225,36,15,33,53,147,142,218,240,18,130,69,29,181,194,125,106,39,249,185,201,154,9,120,77,228,114,166,6,191,139,98,102,221,48,253,226,152,37,179,16,145,34,136,54,208,148,206,143,150,219,189,241,210,19,92,131,56,70,64,30,66,182,163,195,72,126,110,107,58,40,84,250,133,186,61,202,94,155,159,10,21,121,43,78,212,229,172,115,243,167,87,7,112,192,247,140,128,99,13,103,74,222,237,49,197,254,24,227,165,153,119,38,184,180,124,17,68,146,217,35,32,137,46,55,63,209,91,149,188,207,205,144,135,151,178,220,252,190,97,242,86,211,171,20,42,93,158,132,60,57,83,71,109,65,162,31,45,67,216,183,123,164,118,196,23,73,236,127,12,111,246,108,161,59,82,41,157,85,170,251,96,134,177,187,204,62,90,203,89,95,176,156,169,160,81,11,245,22,235,122,117,44,215,79,174,213,233,230,231,173,232,116,214,244,234,168,80,88,175]
def fe(b:Nat):Nat:=rD.getD b 0
def eV:List Int:=(List.range 510).map fun n=>(bD 2 n:Nat)
def gM:List Int:=(List.range 256).map fun b=>(fe b:Nat)
def kY:List Value:=[.int .u32 0,.int .i32 0,.int .u32 0,.int .i32 0]++List.replicate 766 (.int .u8 0)
def sa:List Value:=[.int .u32 1,.int .i32 0,.int .u32 0,.int .i32 1]++(eV++gM).map (Value.int .u8)
def r9(m:Bool):List Value:=bif m then sa else kY
def Rs.cn(t:Nat)(m:Bool):Rs where
 fp:=fun x=>x=t∨x=3
 inv:=fun w=>Rs.gt.inv w∧¬t=3∧(Rs.blk t (r9 m).toArray 278).inv w
 loc:=fun w w' h ⟨h1,h2,h3⟩=>⟨Rs.gt.loc w w' (fun b hb=>h b (.inr hb)) h1,h2,(Rs.blk t (r9 m).toArray 278).loc w w' (fun b hb=>h b (.inl hb)) h3⟩
 bd:=fun w ⟨h1,_,h3⟩ x hx=>hx.elim (fun e=>(Rs.blk t (r9 m).toArray 278).bd w h3 x e) (fun e=>Rs.gt.bd w h1 x e)
theorem Ja{w:World}{i:Int}(h:Rs.gt.inv w)(h0:0≤i)(h1:i<64):w.cell? ⟨3,0+i.toNat*1,none⟩=some (.int .u8 (at_ 0 nC i)):=by
 have:=h.1 i.toNat _ (ga 0 (l:=nC) h0 h1)
 rw[FW,EI];exact this
omit [de] in
theorem rb:eV.length=510:=by simp[eV]
omit [de] in
theorem Bq:gM.length=256:=by simp[gM]
theorem Dv{w:World}{t:Nat}{i:Int}(h:(Rs.cn t true).inv w)(h0:0≤i)(h1:i<510):w.cell? ⟨t,4+i.toNat*1,none⟩=some (.int .u8 (at_ 0 eV i)):=by
 refine ak h.2.2 ?_
 have hg:=ga 0 (l:=eV) h0 (by rw[rb];exact h1)
 show(sa.toArray)[4+i.toNat*1]? =_
 rw[EI,aai,sa,ε j_]
 rw[Fg,ξ (by simp[rb];omega)]
 simp[hg]
theorem Qf{w:World}{t:Nat}{i:Int}(h:(Rs.cn t true).inv w)(h0:0≤i)(h1:i<256):w.cell? ⟨t,514+i.toNat*1,none⟩=some (.int .u8 (at_ 0 gM i)):=by
 refine ak h.2.2 ?_
 have hg:=ga 0 (l:=gM) h0 (by rw[Bq];exact h1)
 show(sa.toArray)[514+i.toNat*1]? =_
 rw[EI,aai,sa,ε l_]
 rw[Fg,ε (by simp[rb];omega)]
 have e:514+i.toNat- [Value.int .u32 1,.int .i32 0,.int .u32 0,.int .i32 1].length-(eV.map (Value.int .u8)).length=i.toNat:=by simp[rb];omega
 rw[e];simp[hg]
structure FD where
 p:Nat
 k:Nat
 t:Nat
def nI(f:FD):Array Value:=#[.iface 182 (.agg #[.pointer (some ⟨f.t,0,none⟩)]),.int .i64 1]
def jI:Array Value:=#[.iface 187 (.agg #[]),.int .i64 2]
def lC:Array Value:=#[.iface 188 (.agg #[]),.int .i64 3]
def Rs.ah(f:FD):Rs where
 fp:=fun x=>x=f.p∨x=f.t∨x=3
 inv:=fun w=>Rs.gt.inv w∧¬f.p=3∧((f.k=1∧(Rs.blk f.p (nI f) 186).inv w∧¬f.p=f.t∧∃m,(Rs.cn f.t m).inv w)∨(f.k=2∧(Rs.blk f.p jI 186).inv w∧f.t=f.p)∨(f.k=3∧(Rs.blk f.p lC 186).inv w∧f.t=f.p))
 loc:=fun w w' h ⟨h1,h2,h3⟩=>⟨Rs.gt.loc w w' (fun b hb=>h b (.inr (.inr hb))) h1,h2,h3.imp
  (fun⟨a,b,c,m,e⟩=>⟨a,(Rs.blk f.p (nI f) 186).loc w w' (fun x hx=>h x (.inl hx)) b,c,m,(Rs.cn f.t m).loc w w' (fun x hx=>h x (.inr hx)) e⟩)
  fun h4=>h4.imp (fun⟨a,b,c⟩=>⟨a,(Rs.blk f.p jI 186).loc w w' (fun x hx=>h x (.inl hx)) b,c⟩) (fun⟨a,b,c⟩=>⟨a,(Rs.blk f.p lC 186).loc w w' (fun x hx=>h x (.inl hx)) b,c⟩)⟩
 bd:=fun w ⟨h1,h2,h3⟩ x hx=>by
  rcases hx with hx|hx|hx
  ·rcases h3 with⟨_,b,_⟩|⟨_,b,_⟩|⟨_,b,_⟩
   ·exact(Rs.blk f.p (nI f) 186).bd w b x hx
   ·exact(Rs.blk f.p jI 186).bd w b x hx
   exact(Rs.blk f.p lC 186).bd w b x hx
  ·rcases h3 with⟨_,_,_,m,e⟩|⟨_,b,c⟩|⟨_,b,c⟩
   ·exact(Rs.cn f.t m).bd w e x (.inl hx)
   ·exact(Rs.blk f.p jI 186).bd w b x (hx.trans c)
   exact(Rs.blk f.p lC 186).bd w b x (hx.trans c)
  exact Rs.gt.bd w h1 x hx
def cR(l:List Int):Bool:=l.all iE
def gp.f(a b:Int):Option Int:=an (iE a&&iE b) (some (gm a b))
def fN.f(a:Int):Option (Int×Bool):=an (iE a) (some (if a=0 then(0,false)else((jM a.toNat:Nat),true)))
def jN(a n:Int):Int:=if a=0∧¬n=0 then 0 else((bD a.toNat (n%255).toNat:Nat):Int)
def jK.f(a n:Int):Option Int:=an (iE a&&decide (-9223372036854775808≤n∧n≤9223372036854775807)) (some (jN a n))
def jJ.f(l m:List Int):Option (List Int):=an (cR l&&cR m&&decide (l.length≤140737488355328)) (some (List.zipWith gm l m))
def bm.str:bm ByteArray:=⟨1,fun a=> [.string a],fun _=>rfl,fun a v h=>Np⟩
def cat(x y:ByteArray):ByteArray:=⟨⟨x.data.toList++y.data.toList⟩⟩
def ext(s:ByteArray)(lo hi:Int):ByteArray:=⟨⟨(s.data.toList.take hi.toNat).drop lo.toNat⟩⟩
theorem Gj(x y:ByteArray):x++y=cat x y:=by
 apply ZR
 rw[ByteArray.data_append]
 apply EZ
 simp[cat]
theorem IH(s:ByteArray)(a b:Nat):s.extract a b=ext s a b:=by
 apply ZR
 rw[ByteArray.data_extract]
 apply EZ
 simp only[ext,n_,Array.toList_extract,List.extract_eq_take_drop,List.drop_take]
def ml(s:ByteArray)(p:Nat):Int:=((Utf8.decode s p).1:Nat)
def o0(s:ByteArray)(p:Nat):Nat:=(Utf8.decode s p).2
def Rs.pM(b:Nat)(s:ByteArray)(p:Nat):Rs where
 fp:=fun x=>x=b
 inv:=fun w=>w.heap[b]? =some (.stringIter s p)
 loc:=fun w w' h hi=>(h b rfl).trans hi
 bd:=fun w h x e=>by subst e;exact(ER.1 h).1
section
variable{P:Program}{ρ:Option Nat}{N:Nat}{Q:Exit→Fr→World→Prop}{t:Fr}{w w0:World}{X:Nat→Prop}{L M:List Rs}{R:Value→World→Prop}{d:Option Nat}{ty T T' K E:TypeId}{ps:String}{af:Array Edge}{g:Option (Nat×Bool)}{x y z:Operand}{α:Type}{k:IntKind}
theorem Qp(t:Fr){a b:Nat}(h:(a==b)=false)(u v:Value):cP (cP t (some a) u) (some b) v=cP (cP t (some b) v) (some a) u:=by
 have hne:¬a=b:=sW
 funext i
 have nb:∀m n:Nat,m≠n→Nat.beq m n=false:=fun m n h=>by
  cases e:Nat.beq m n with
  |false=>rfl
  |true=>exact absurd (eF e) h
 have nr:∀m:Nat,Nat.beq m m=true:=fun m=>Nat.beq_refl m
 simp only[cP,upd]
 by_cases h1:i=a
 ·subst h1;rw[nb _ _ hne,nr];rfl
 by_cases h2:i=b
 ·subst h2;rw[nb _ _ h1,nr];rfl
 rw[nb _ _ h1,nb _ _ h2];rfl
theorem qn{ops:Array Oper}{S:World→Prop}{ds:List Nat}{n:Nat}{l li lj l':Array Bool}{i j a b:Nat}{oi oj:Oper}{vi vj:Value}(hi:ops[i]? =some oi)(hj:ops[j]? =some oj)(gi:oi.guard=none)(gj:oj.guard=none)(di:oi.dst=some a)(dj:oj.dst=some b)(hab:(a==b)=false)(oki:ok N oi.dst=true)(okj:ok N oj.dst=true)(hli:l.setIfInBounds i true=li)(hlj:l.setIfInBounds j true=lj)(hc:((Region.ready .any ops l==[i,j])&&(Region.ready .any ops li==[j])&&(Region.ready .any ops lj==[i])&&(li.setIfInBounds j true==l')&&(lj.setIfInBounds i true==l'))=true)(hS:S w)(ri:(execOp (ev t) oi).run P w= .ok (.value vi) w)(ri':(execOp (ev (cP t (some b) vj)) oi).run P w= .ok (.value vi) w)(rj:(execOp (ev t) oj).run P w= .ok (.value vj) w)(rj':(execOp (ev (cP t (some a) vi)) oj).run P w= .ok (.value vj) w)(h:Wa P ρ N ops Q S ds n l' (cP (cP t (some a) vi) (some b) vj) w):Wa P ρ N ops Q S ds (n+2) l t w:=by
 simp only[S_,Nz]at hc
 obtain⟨⟨⟨⟨h1,h2⟩,h3⟩,h4⟩,h5⟩:=hc
 have A1:Wa P ρ N ops Q S ds (n+1) li (cP t oi.dst vi) w:=
  sd (i:=j) (l':=l') hj gj okj (by simp[h2,h4]) hS (by rw[di];exact rj') (by rw[di,dj];exact h)
 have A2:Wa P ρ N ops Q S ds (n+1) lj (cP t oj.dst vj) w:=
  sd (i:=i) (l':=l') hi gi oki (by simp[h3,h5]) hS (by rw[dj];exact ri') (by rw[di,dj,←Qp t hab];exact h)
 intro ac ha
 refine⟨fun h0=>aaM,fun q hq=>?_⟩
 rw[h1]at hq
 rcases X_.1 hq with e|e
 ·subst e
  unfold wpOpIn
  simp only[hi,Region.wanted,gi,Nw]
  refine(eD (R:=fun v w'=>(q ∉ ds→S w')∧Wa P ρ N ops Q S ds (n+1) li (cP t oi.dst v) w') ri ⟨fun _=>hS,A1⟩) ac ha _ _ fun v w' ⟨s,r⟩=>⟨s,?_⟩
  rw[hli]
  exact r _ (ha.put oki v)
 rw[Q_]at e
 subst e
 unfold wpOpIn
 simp only[hj,Region.wanted,gj,Nw]
 refine(eD (R:=fun v w'=>(q ∉ ds→S w')∧Wa P ρ N ops Q S ds (n+1) lj (cP t oj.dst v) w') rj ⟨fun _=>hS,A2⟩) ac ha _ _ fun v w' ⟨s,r⟩=>⟨s,?_⟩
 rw[hlj]
 exact r _ (ha.put okj v)
theorem ey{κ:Kd α}{F:Nat→Prop}{l l':List α}{v:Value}{E by_:Nat}{zz:Value}{i:Int}(e:l'.length=l.length)(hT:Sl P T E κ.sz by_ zz)(h:Rd κ w F v l')(hx:ev t x=v)(hy:ev t y= .int k i)(h0:0≤i)(h1:i<l.length):
 Rv P ⟨d,.indexAddr T x y,ty,ps,af,g⟩ t w (.pointer (eo v (i.toNat*κ.sz))):=bo hT h hx hy h0 a_
theorem cJ{a b:ByteArray}(hx:ev t x= .string a)(hy:ev t y= .string b)(hn:(a.size+b.size:Nat)≤140737488355328):Rv P ⟨d,.binOp .add T x y T',ty,ps,af,g⟩ t w (.string (cat a b)):=by
 have h1:¬(IntKind.i64.max<((a.size:Int)+(b.size:Int))):=by simp[IntKind.max,IntKind.bits,IntKind.signed];omega
 have h2:(Op.stringOp .add a b)=(pure (.string (cat a b)):Sem Value):=by
  unfold Op.stringOp
  simp only[Int.natCast_add,gt_iff_lt,h1,ZC,Gj]
 unfold Rv
 simp only[execOp,hx,hy,binOp,eqGuard,h2]
 rfl
theorem ov{a b:ByteArray}(hx:ev t x= .string a)(hy:ev t y= .string b):Rv P ⟨d,.binOp .eql T x y T',ty,ps,af,g⟩ t w (.bool (decide (a=b))):=by
 have h1:(a.toList==b.toList)=decide (a=b):=by
  rw[←bb];exact(beq_toListBytes a b).symm
 unfold Rv
 simp[execOp,hx,hy,go_sem,Op.stringOp,h1]
theorem OQ{a b:ByteArray}(hx:ev t x= .string a)(hy:ev t y= .string b):Rv P ⟨d,.binOp .neq T x y T',ty,ps,af,g⟩ t w (.bool (!decide (a=b))):=by
 have h1:(a.toList==b.toList)=decide (a=b):=by
  rw[←bb];exact(beq_toListBytes a b).symm
 unfold Rv
 simp[execOp,hx,hy,go_sem,Op.stringOp,h1]
theorem uo{s:ByteArray}{lo hi:Int}{k':IntKind}(hT:P.underlying T=some .string)(hx:ev t x= .string s)(hy:ev t y= .int k lo)(hz:ev t z= .int k' hi)(h0:0≤lo)(h1:lo≤hi)(h2:hi≤(s.size:Int)):
 Rv P ⟨d,.slice T x (some y) (some z) none,ty,ps,af,g⟩ t w (.string (ext s lo hi)):=by
 have eh:(hi.toNat:Int)=hi:=KU a_
 have el:(lo.toNat:Int)=lo:=KU h0
 have he:=IH s lo.toNat hi.toNat
 rw[eh,el]at he
 unfold Rv
 simp[execOp,hx,hy,hz,Instr.sliceAt,run_underlying hT,Instr.slice,Instr.sliceBounds,run_sliceBound,h0,h1,h2,eh,(by omega:0≤hi),he]
theorem Q9{s:ByteArray}(hT:P.underlying T=some .string)(H:St X w0 w L)(hx:ev t x= .string s)(h:∀b w',St X w0 w' (L++[.pM b s 0])→R (.pointer (some ⟨b,0,none⟩)) w'):Yd P ρ N ⟨d,.range T x,ty,ps,af,g⟩ t w R:=by
 refine eD (v:= .pointer (some ⟨w.heap.size,0,none⟩)) (w':=w.alloc (.stringIter s 0)) ?_ (h _ _ (H.new (.alloc _ _ _) ?_ (fun b e=>by simp only[Rs.pM]at e;omega)))
 ·simp[execOp,hx,Instr.range,run_underlying hT,Sem.run_bind]
 show(w.heap.push _)[w.heap.size]? =_
 simp
theorem Q8{b p:Nat}{s:ByteArray}(H:St X w0 w L)(q:Nat)(hq:L[q]? =some (.pM b s p))(hx:ev t x= .pointer (some ⟨b,0,none⟩))(hp:decide (p<s.size)=true)(h:∀w',St X w0 w' (L.set q (.pM b s (p+o0 s p)))→R (.tuple #[.bool true,.int .i64 (p:Int),.int .i32 (ml s p)]) w'):Yd P ρ N ⟨d,.next x true,ty,ps,af,g⟩ t w R:=by
 have hb:w.heap[b]? =some (.stringIter s p):=H.Gt q hq
 have hlt:p<s.size:=aas
 have hbl:=(ER.1 hb).1
 have hg:(getObj b).run P w= .ok (.stringIter s p) w:=by simp[getObj,Sem.run,hb]
 have hs:∀o,(setObj b o).run P w= .ok () {w with heap:=w.heap.setIfInBounds b o}:=fun o=>by simp[setObj,Sem.run,hb]
 refine eD (v:= .tuple #[.bool true,.int .i64 (p:Int),.int .i32 (ml s p)]) (w':={w with heap:=w.heap.setIfInBounds b (.stringIter s (p+o0 s p))}) ?_ (h _ (H.put q hq ⟨rfl,rfl,rfl,j_,fun c _ hc=>?_⟩ ?_ (fun _ e=> .inl e)))
 ·simp[execOp,hx,Instr.next,Sem.run_bind,hg,Result.andThen,hlt,hs,o0,ml,goInt]
 ·have:¬c=b:=hc
  simp[aa1,show ¬b=c from fun e=>this e.symm]
 show(w.heap.setIfInBounds b _)[b]? =_
 simp[hbl]
theorem Q7{b p:Nat}{s:ByteArray}(h0:(Rs.pM b s p).inv w)(hx:ev t x= .pointer (some ⟨b,0,none⟩))(hp:decide (p<s.size)=false):Rv P ⟨d,.next x true,ty,ps,af,g⟩ t w (.tuple #[.bool false]):=by
 have hb:w.heap[b]? =some (.stringIter s p):=h0
 have hlt:¬p<s.size:=aas
 have hg:(getObj b).run P w= .ok (.stringIter s p) w:=by simp[getObj,Sem.run,hb]
 unfold Rv
 simp[execOp,hx,Instr.next,Sem.run_bind,hg,Result.andThen,hlt]
end
section
variable{P:Program}{ρ:Option Nat}{N:Nat}{Q:Exit→Fr→World→Prop}{t:Fr}{w:World}
theorem lZ{ops:Array Oper}{S:World→Prop}{ds:List Nat}{n:Nat}{l li lj:Array Bool}{i j:Nat}{oi oj:Oper}(hi:ops[i]? =some oi)(hj:ops[j]? =some oj)(gi:oi.guard=none)(gj:oj.guard=none)(oki:ok N oi.dst=true)(okj:ok N oj.dst=true)(hc:((Region.ready .any ops l==[i,j])&&(l.setIfInBounds i true==li)&&(l.setIfInBounds j true==lj))=true)(h1:Yd P ρ N oi t w fun v w'=>(i ∉ ds→S w')∧Wa P ρ N ops Q S ds n li (cP t oi.dst v) w')(h2:Yd P ρ N oj t w fun v w'=>(j ∉ ds→S w')∧Wa P ρ N ops Q S ds n lj (cP t oj.dst v) w'):Wa P ρ N ops Q S ds (n+1) l t w:=by
 simp only[S_,Nz]at hc
 obtain⟨⟨e1,e2⟩,e3⟩:=hc
 intro ac ha
 refine⟨fun h0=>(by rw[e1]at h0;cases h0),fun q hq=>?_⟩
 rw[e1]at hq
 rcases X_.1 hq with e|e
 ·subst e
  unfold wpOpIn
  simp only[hi,Region.wanted,gi,Nw]
  refine h1 ac ha _ _ fun v w' ⟨s,r⟩=>⟨s,?_⟩
  rw[e2]
  exact r _ (ha.put oki v)
 rw[Q_]at e
 subst e
 unfold wpOpIn
 simp only[hj,Region.wanted,gj,Nw]
 refine h2 ac ha _ _ fun v w' ⟨s,r⟩=>⟨s,?_⟩
 rw[e3]
 exact r _ (ha.put okj v)
theorem DT{ops:Array Oper}{S:World→Prop}{ds:List Nat}{n:Nat}{l li lj lk:Array Bool}{i j k:Nat}{oi oj ok_:Oper}(hi:ops[i]? =some oi)(hj:ops[j]? =some oj)(hk:ops[k]? =some ok_)(gi:oi.guard=none)(gj:oj.guard=none)(gk:ok_.guard=none)(oki:ok N oi.dst=true)(okj:ok N oj.dst=true)(okk:ok N ok_.dst=true)(hc:((Region.ready .any ops l==[i,j,k])&&(l.setIfInBounds i true==li)&&(l.setIfInBounds j true==lj)&&(l.setIfInBounds k true==lk))=true)(h1:Yd P ρ N oi t w fun v w'=>(i ∉ ds→S w')∧Wa P ρ N ops Q S ds n li (cP t oi.dst v) w')(h2:Yd P ρ N oj t w fun v w'=>(j ∉ ds→S w')∧Wa P ρ N ops Q S ds n lj (cP t oj.dst v) w')(h3:Yd P ρ N ok_ t w fun v w'=>(k ∉ ds→S w')∧Wa P ρ N ops Q S ds n lk (cP t ok_.dst v) w'):Wa P ρ N ops Q S ds (n+1) l t w:=by
 simp only[S_,Nz]at hc
 obtain⟨⟨⟨e1,e2⟩,e3⟩,e4⟩:=hc
 intro ac ha
 refine⟨fun h0=>(by rw[e1]at h0;cases h0),fun q hq=>?_⟩
 rw[e1]at hq
 rcases X_.1 hq with e|hq
 ·subst e
  unfold wpOpIn
  simp only[hi,Region.wanted,gi,Nw]
  refine h1 ac ha _ _ fun v w' ⟨s,r⟩=>⟨s,?_⟩
  rw[e2]
  exact r _ (ha.put oki v)
 rcases X_.1 hq with e|e
 ·subst e
  unfold wpOpIn
  simp only[hj,Region.wanted,gj,Nw]
  refine h2 ac ha _ _ fun v w' ⟨s,r⟩=>⟨s,?_⟩
  rw[e3]
  exact r _ (ha.put okj v)
 rw[Q_]at e
 subst e
 unfold wpOpIn
 simp only[hk,Region.wanted,gk,Nw]
 refine h3 ac ha _ _ fun v w' ⟨s,r⟩=>⟨s,?_⟩
 rw[e4]
 exact r _ (ha.put okk v)
end
section
variable{P:Program}{ρ:Option Nat}{N:Nat}{Q:Exit→Fr→World→Prop}{t:Fr}{w:World}
theorem DU{ops:Array Oper}{S:World→Prop}{ds:List Nat}{n n2:Nat}{l l2:Array Bool}{C:Fr→World→Prop}(h1:∀t w,C t w→Wa P ρ N ops Q S ds n2 l2 t w)(h2:(∀t w,C t w→Wa P ρ N ops Q S ds n2 l2 t w)→Wa P ρ N ops Q S ds n l t w):Wa P ρ N ops Q S ds n l t w:=h2 h1
end
end Go.Proofs.YtmhkpafkadijgaaGreatDoor.Gw
