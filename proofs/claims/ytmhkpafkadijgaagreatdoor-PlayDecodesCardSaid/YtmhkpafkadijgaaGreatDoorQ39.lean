/- A part of the proof of Rows.PlayDecodesCardSaid; the conditions are that card's own. -/
import Derived.Test.YtmhkpafkadijgaaGreatDoorQ1
import Derived.ProofKit
import Derived.Lib.SmallJoins
import Derived.SizedLaws
import Derived.Deep.Slices
set_option linter.all false
namespace Go.Proofs.YtmhkpafkadijgaaGreatDoor.Gw
open Go Go.RowKit Go.Deep Go.ChangeShapes Go.WideShapes Go.ChangeAt
theorem yy{H:Type}{enc:TypeId×Value→H}{P:Program}(hl:laidOutB P=true){W W':World}(hb:Below W.heap.size W W'):
 ∀(ts:List TypeId)(vs:List Value)(ds:List (DataW H))(ps:List MemPlace),ts.all (fun t=>P.readableRec t&&Nat.blt t P.types.size)=true→DataW.TrodAll enc P W 0 (fun _=>true) true ts vs ds ps→(∀x∈ps,x.block<W.heap.size)→
  DataW.TrodAll enc P W' 0 (fun b=>decide (b<W.heap.size)) true ts vs ds ps
 | [],[],[],_,_,h,_=>h
 |t::ts,v::vs,d::ds,ps,hr,⟨p,q,h1,h2,h3⟩,hlt=>by
  subst h3
  simp only[PX,S_]at hr
  exact⟨p,q,Below.trod hl hr.1.1 (PR▸hr.1.2) h1 hb (fun x hx=>hlt x (FC _ hx)),yy hl hb ts vs ds q hr.2 h2 (fun x hx=>hlt x (Gx _ hx)),rfl⟩
 | [],[],_::_,_,_,h,_=>h.elim
 | [],_::_,_,_,_,h,_=>h.elim
 |_::_,[],_,_,_,h,_=>h.elim
 |_::_,_::_,[],_,_,h,_=>h.elim
theorem KA{H:Type}{enc:TypeId×Value→H}{P:Program}{f:Func}{s:ChangeSpec}{fresh handsOn:Bool}{W W':World}{args:Array Value}{ds gs:List (DataW H)}{before:List MemPlace}{tb:TypeId}(hl:laidOutB P=true)(hr:f.params.toList.all (fun t=>P.readableRec t&&Nat.blt t P.types.size)=true)(hres:f.resultTypes=#[tb])(htb:P.underlying tb=some .bool)(hv:s.vars=[])(hW:DataW.Whole enc P f.params.toList s.vars false W args.toList ds gs before)(h1:(s.fn H (ds++gs)).results=[.lit (.bool true)])(h2:(s.fn H (ds++gs)).args=ds)(h3:(s.fn H (ds++gs)).vars=[])(hB:Below W.heap.size W W'):
 s.post enc P f false fresh handsOn false W args (.bool true) W':=by
 have hlt:∀x∈before,x.block<W.heap.size:=fun x hx=>by simpa using hW.lt x hx
 have hW':=hW
 obtain⟨p,q,hA,hV,e,_,_⟩:=hW
 rw[hv]at hV
 obtain⟨eg,eq⟩:=trodVars_none hV
 subst eg;subst eq
 rw[fQ]at e;subst e
 refine⟨ds,[],before,[],before,[],hW',?_,?_,?_,hB.frame _,fun h=>aad⟩
 ·rw[h1,hres]
  exact trodAll_mk1 (shut_bool htb _)
 ·rw[h2];exact yy hl hB _ _ _ _ hr hA hlt
 rw[h3,hv];rfl
theorem wf_u8{x:Int}(h:(Lit.int .u8 x).wf=true):0≤x∧x≤255:=by
 simp[Lit.wf,IntKind.min,IntKind.max,IntKind.signed,IntKind.bits]at h;omega
section
variable{H:Type}{enc:TypeId×Value→H}{P:Program}{W:World}
def yc{α:Type}(enc:TypeId×Value→H)(P:Program)(W:World)(e:bm α)(E:TypeId)(G:α→Prop):Prop:=
 ∀fuel cs x,DataW.trod enc P W 0 (fun _=>true) true fuel E cs=some x→∃a,cs=e.en a∧G a
theorem M0{E:TypeId}{k:IntKind}(h:P.underlying E=some (.int k)):yc enc P W (.int k) E (fun a=>(Lit.int k a).wf=true):=by
 intro fuel cs x hx
 obtain⟨n,rfl,_,hw⟩:=DataW.trod_int h hx
 exact⟨n,rfl,hw⟩
theorem MZ{α:Type}{e:bm α}{G:α→Prop}{E T base by_:Nat}{v:Value}{d:DataW H}{p:List MemPlace}(hT:P.underlying T=some (.slice E))(hc:P.cellsOf E=e.sz)(hB:P.bytesOf E=by_)(ho:yc enc P W e E G)(hv:Value.okWide P W .any base T v)(h:DataW.Trod enc P W 0 (fun _=>true) true T v d p){ts:List TypeId}{ds:List (DataW H)}(hw:(DataW.weightsEach P ts ds).all (·≤reachBytes)=true)(j:Nat)(ht:ts[j]? =some T)(hd:ds[j]? =some d):
 ∃l,Rd (.of e) W (Ol no W) v l∧l.length*by_≤140737488351232∧∀a∈l,G a:=by
 obtain⟨p0,len,cap,rfl⟩:=okWide_slice hT hv
 obtain⟨fuel,hf⟩:=h
 rcases Go.Deep.open_slice hT hf with⟨h1,h2⟩|⟨a,len',cap',m,n,D,Pl,h1,hb,hl,hm,hmm,h2,hx⟩
 ·have h1':Value.slice p0 len cap= .slice none 0 0:=by simpa [Value.cells] using h1
  cases h1'
  exact⟨[],Rd.nil _ _ _,j_,j_⟩
 have h1':Value.slice p0 len cap= .slice (some a) len' cap':=by simpa [Value.cells] using h1
 cases h1'
 have hok:Cell.ok P W .any base T (.slice (some a) len cap):=by
  simp only[Value.okWide,hT,Cell.okWide]at hv
  exact hv
 simp only[Cell.ok,hT]at hok
 obtain⟨_,_,_,hs,row,cells,hsh,_⟩:=hok
 have hbl:a.block<W.heap.size:=by
  rcases Me a.block W.heap.size with h|h
  ·exact h
  unfold World.shape? at hsh
  rw[Nj h]at hsh;cases hsh
 have hlm:len≤m:=by rw[hmm];split<;>omega
 have hA:∀i,i<len→∃x,G x∧W.rangeAt a.block (a.off+i*e.sz) (e.en x):=fun i hi=>by
  obtain⟨cs',c1,c2⟩:=hx i a_
  obtain⟨x,rfl,hg⟩:=ho _ _ _ c2
  obtain⟨_,hlen,hget⟩:=World.cells?_some c1
  refine⟨x,hg,fun j u hj=>?_⟩
  have hj':j<(e.en x).length:=(χ.1 hj).1
  have:=hget j a_
  rw[←hc]
  obtain⟨b,o,s⟩:=a
  cases hs
  simp only[Addr.add_mid]at this
  rw[←hj];exact this
 have hget:∀i x,(List.ofFn fun i:Fin len=>Classical.choose (hA i.1 i.2))[i]? =some x→i<len∧G x∧W.rangeAt a.block (a.off+i*e.sz) (e.en x):=by
  intro i x hi
  rw[List.getElem?_ofFn]at hi
  split at hi
  ·rename_i h
   cases hi
   exact⟨h,Classical.choose_spec (hA i h)⟩
  cases hi
 refine⟨List.ofFn fun i:Fin len=>Classical.choose (hA i.1 i.2),⟨some a,cap,by rw[ZX],by rw[ZX];exact hl,hm,.inr ⟨a.block,a.off,by obtain⟨b,o,s⟩:=a;cases hs;rfl,⟨hbl,fun x=>x⟩,fun i x hi=>?_⟩⟩,?_,?_⟩
 ·exact⟨e.en x,rfl,(hget i x hi).2.2⟩
 ·rw[ZX]
  have hd':ds[j]? =some (.slice ((List.range len).map D) ((List.range (m-len)).map fun j=>D (len+j))):=by rw[hd];exact L_ _ (by simpa using L_ Prod.fst h2)
  have:=sized_slice hw ht hd' hT
  rw[hB]at this
  simp at this
  have h3:len*by_≤(len+(m-len))*by_:=BF _ a_
  unfold reachBytes at this
  omega
 intro x hx'
 obtain⟨i,hi⟩:=List.mem_iff_getElem?.1 hx'
 exact(hget i x hi).2.1
end
end Go.Proofs.YtmhkpafkadijgaaGreatDoor.Gw
