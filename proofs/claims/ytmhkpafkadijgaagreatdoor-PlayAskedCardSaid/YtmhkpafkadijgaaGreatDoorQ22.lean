/- A part of the proof of Rows.PlayAskedCardSaid; the conditions are that card's own. -/
import Derived.Test.YtmhkpafkadijgaaGreatDoorQ21
import Derived.Lib.AppendIntMem
import Derived.Lib.SmallJoins
import Derived.Sort.OwnSorted
import Derived.Laws.BytesArg
set_option linter.all false
set_option maxRecDepth 100000
set_option maxHeartbeats 4000000
namespace Go.Proofs.YtmhkpafkadijgaaGreatDoor.Gw
open Go Go.RowKit Go.Shelf
variable[de]
def Rs.lv:Rs where
 fp:=fun x=>x=0∨x=1
 inv:=fun w=>(Lib.TabIs Tryz.prog w "internal/strconv.uint64pow10" .u64 Lib.pow10Tab∧∃m:Int,w.cell? ⟨1,0,none⟩=some (.int .i64 m))∧w.heap[0]? =de.p∧w.heap[1]? =de.m
 loc:=by
  rintro w w' h ⟨⟨h1,m,h2⟩,h3,h4⟩
  refine⟨⟨?_,m,(World.cell?_of_block (w:=w) (a:=⟨1,0,none⟩) (h _ (.inr rfl))).trans h2⟩,(h _ (.inl rfl)).trans h3,(h _ (.inr rfl)).trans h4⟩
  have e:Tryz.prog.globalNamed "internal/strconv.uint64pow10" =some 0:=by kernel_rfl
  unfold Lib.TabIs World.var? at h1⊢
  rw[e,aJ]at h1⊢
  rw[h _ (.inl rfl)];exact h1
 bd:=by
  rintro w ⟨⟨h1,m,h2⟩,_⟩ x (rfl|rfl)
  ·have e:Tryz.prog.globalNamed "internal/strconv.uint64pow10" =some 0:=by kernel_rfl
   unfold Lib.TabIs World.var? at h1
   rw[e,aJ]at h1
   rcases Nat.lt_or_ge 0 w.heap.size with h'|h'
   ·exact h'
   ·rw[Array.getElem?_eq_none h']at h1;cases h1
  ·unfold World.cell? at h2
   rcases Nat.lt_or_ge 1 w.heap.size with h'|h'
   ·exact h'
   ·rw[Array.getElem?_eq_none (by exact h')]at h2;cases h2
theorem xE{w w':World}(h:Below w.heap.size w w'):St no w w' []:=⟨.wT h,by simp,by simp,.nil⟩
theorem Qc{r:Rs}{w w':World}(hr:r.inv w)(h:Below w.heap.size w w'):St r.fp w w' [r]:=
 (St.start hr).call (.wT h)
def num(n:Int):List UInt8:=
 let u:=n.toNat
 if u<10 then [UInt8.ofNat (48+u)]else if u<100 then [UInt8.ofNat (48+u/10),UInt8.ofNat (48+u%10)]else [UInt8.ofNat (48+u/100),UInt8.ofNat (48+u/10%10),UInt8.ofNat (48+u%10)]
theorem MD{n:Int}(h0:0≤n)(h1:n<1000):Lib.itoa n=num n:=by
 obtain⟨u,rfl⟩:∃u:Nat,n=u:=⟨n.toNat,by omega⟩
 have hu:u<1000:=by omega
 rw[Lib.itoa_nonneg]
 unfold num
 simp only[Int.toNat_natCast]
 by_cases a:u<10
 ·rw[if_pos a,Lib.decDigits_one a]
 ·rw[if_neg a]
  by_cases b:u<100
  ·rw[if_pos b,Lib.decDigits_two a b]
  ·rw[if_neg b,Lib.decDigits,dif_neg a,Lib.decDigits_two (by omega) (by omega)]
   rw[Nat.div_div_eq_div_mul];rfl
def strconv_Itoa.f(a0:Int):Option ByteArray:=an (decide (0≤a0∧a0<1000)) (some ⟨⟨num a0⟩⟩)
theorem strconv_Itoa.calls{w0:World}{a0:Int}{r:ByteArray}(hf:Rs.lv.inv w0)(E:strconv_Itoa.f a0=some r):Calls Tryz.prog 10 #[.int .i64 a0] w0 fun e w'=>e= .returned (.string r)∧St Rs.lv.fp w0 w' [.lv]:=by
 obtain⟨⟨h0,h1⟩,E⟩:=ar E
 cases E
 refine(Tryz.strconv_Itoa a0 (by omega) (by omega) w0 hf.1.1).mono ?_
 rintro _ w' ⟨rfl,k,os,rfl⟩
 exact⟨by rw[MD h0 h1],Qc hf (Lib.below_grow _ w0 (aI _) k os)⟩
def strconv_Atoi.f(a0:ByteArray):Option Int:=an (decide (a0.size≤18)) (Lib.atoi a0.data.toList)
theorem strconv_Atoi.calls{w0:World}{a0:ByteArray}{r:Int}(E:strconv_Atoi.f a0=some r):Calls Tryz.prog 99 #[.string a0] w0 fun e w'=>e= .returned (.tuple #[.int .i64 r,.nilIface])∧St no w0 w' []:=by
 obtain⟨h0,E⟩:=ar E
 refine(Tryz.strconv_Atoi a0 r h0 E w0).mono ?_
 rintro _ w' ⟨rfl,t,rfl⟩
 exact⟨rfl,xE (Joins.below_bytesWorld _ _ _ _ (aI _))⟩
def ni.f(a0 a1:ByteArray):Option ByteArray:=an (decide (a0.size≤140737488355328)&&decide (a1.size<4294967281)&&a1.data.toList.all (fun b=>Nat.blt b.toNat 128)) (some ⟨⟨Lib.trimS a0.data.toList a1.data.toList⟩⟩)
theorem ni.calls{w0:World}{a0 a1 r:ByteArray}(E:ni.f a0 a1=some r):Calls Tryz.prog 98 #[.string a0,.string a1] w0 fun e w'=>e= .returned (.string r)∧St no w0 w' []:=by
 unfold ni.f an at E
 cases h:(decide (a0.size≤140737488355328)&&decide (a1.size<4294967281)&&a1.data.toList.all (fun b=>Nat.blt b.toNat 128))with
 |false=>rw[h]at E;cases E
 |true=>
  rw[h]at E;cases E
  simp only[Bool.and_eq_true,decide_eq_true_eq]at h
  refine(Any.strings_Trim_laid Tryz.KG (by kernel_rfl) a0 a1 w0 (by omega) (by omega) (fun j b hb=>by have:=List.all_eq_true.1 h.2 b (List.mem_of_getElem? hb);exact Nat.le_of_ble_eq_true this)).mono ?_
  rintro _ w' ⟨rfl,hb⟩
  exact⟨rfl,xE hb⟩
def dN(c:UInt8):List UInt8→List (List UInt8)
 | []=> [[]]
 |b::l=>if b==c then []::dN c l else match dN c l with
  | []=> [[b]]
  |h::t=>(b::h)::t
theorem Rl(c:UInt8):∀l,dN c l≠ []
 | []=>by simp[dN]
 |b::l=>by
  rw[dN];split
  ·simp
  ·split<;>simp
theorem Dl(c:UInt8):∀l:List UInt8,Lib.splitK [c] 0 (Lib.count l [c]) l=dN c l
 | []=>by rw[Lib.count_miss (by rfl)];rfl
 |b::l=>by
  have ih:=Dl c l
  have hix:Lib.index (b::l) [c]=Lib.indexByte (b::l) c:=Lib.index_one _ _
  by_cases h:(b==c)=true
  ·have h0:Lib.index (b::l) [c]=((0:Nat):Int):=by rw[hix,Lib.indexByte,if_pos h];rfl
   rw[Lib.count_hit (by simp) h0,Nat.add_comm 1,Lib.splitK,h0,if_neg (by decide)]
   simp only[Int.toNat_natCast,Nat.zero_add,List.take_zero,List.length_singleton,List.drop_succ_cons,List.drop_zero]
   rw[ih,dN,if_pos h]
  ·rw[dN,if_neg h]
   by_cases hm:Lib.index l [c]= -1
   ·have h0:Lib.index (b::l) [c]= -1:=by
     rw[hix,Lib.indexByte,if_neg h,if_pos];rw[←Lib.index_one,hm];rfl
    rw[Lib.count_miss h0]
    rw[Lib.count_miss hm]at ih
    rw[←ih];rfl
   ·have hge:=Lib.index_ge l [c]
    obtain⟨j,hj⟩:∃j:Nat,Lib.index l [c]=j:=⟨(Lib.index l [c]).toNat,by omega⟩
    have h0:Lib.index (b::l) [c]=((j+1:Nat):Int):=by
     rw[hix,Lib.indexByte,if_neg h,if_neg]
     ·rw[←Lib.index_one,hj];rfl
     ·rw[←Lib.index_one];simpa using hm
    rw[Lib.count_hit (by simp) hj,Nat.add_comm 1,Lib.splitK,hj,if_neg (by simp)]at ih
    rw[Lib.count_hit (by simp) h0,Nat.add_comm 1,Lib.splitK,h0,if_neg (by first|(simp;done)|(simp;omega))]
    simp only[Int.toNat_natCast,Nat.add_zero,List.length_singleton,List.drop_succ_cons,List.take_succ_cons]at ih⊢
    rw[←ih]
def strings_Split.f(a0 a1:ByteArray):Option (List ByteArray):=
 match a1.data.toList with
 | [c]=>an (decide (a0.size≤4294967280)) (some ((dN c a0.data.toList).map fun l=>⟨⟨l⟩⟩))
 |_=>none
theorem strings_Split.calls{w0:World}{a0 a1:ByteArray}{r:List ByteArray}(hf:Rs.lv.inv w0)(E:strings_Split.f a0 a1=some r):Calls Tryz.prog 42 #[.string a0,.string a1] w0 fun e w'=>∃u0:Value,e= .returned u0∧St Rs.lv.fp w0 w' [.lv,.own .str 9 u0 r]:=by
 unfold strings_Split.f at E
 split at E
 ·rename_i c hc
  obtain⟨h0,E⟩:=ar E
  cases E
  obtain⟨⟨h1,m,hm⟩,_⟩:=id hf
  have hs:a1.size=1:=by show a1.data.size=1;rw[←Array.length_toList,hc];rfl
  have hb:=Lib.splitB_data a1 0 (Lib.countB a0 a1) a0
  have hl:=Lib.splitB_all a1 (by omega) 0 _ a0 rfl
  have hr:Lib.splitB a1 0 (Lib.countB a0 a1) a0=(dN c a0.data.toList).map fun l=>⟨⟨l⟩⟩:=by
   have e:Lib.countB a0 a1=Lib.count a0.data.toList [c]:=by unfold Lib.countB;rw[hc]
   rw[e,hc,Dl]at hb
   rw[e,←hb,List.map_map]
   conv=>lhs;rw[←List.map_id (Lib.splitB a1 0 _ a0)]
   rfl
  refine(Tryz.strings_Split a0 a1 m w0 (by omega) hm (by omega)).mono ?_
  rintro _ w' ⟨rfl,rfl⟩
  refine⟨_,rfl,(St.start hf).new (.alloc _ _ _) ?_ ?_⟩
  ·rw[←hr]
   refine⟨bm.fC _ _,.inr ⟨w0.heap.size,_,_,by rw[hl],Nat.zero_le _,by show(w0.heap.push _)[w0.heap.size]? =_;simp;rfl,by rw[hl];exact aI _,?_,?_,?_⟩⟩
   ·have:=Lib.countB_le a1 (by omega) a0.size a0 (aI _);unfold maxLen;omega
   ·simp[hl,bm.str]
   ·rw[List.take_of_length_le (by simp[hl,bm.str])]
    simp[bm.all,bm.str,List.map_eq_flatMap]
  ·intro b hb
   have:(Value.slice (some ⟨w0.heap.size,0,none⟩) _ _).ownBlock=some b:=hb
   cases this;exact aI _
 ·cases E
def strings_Join.f(a0:List ByteArray)(a1:ByteArray):Option ByteArray:=an (decide (a0.length≤140737488355328∧(Lib.join (a0.map (·.data.toList)) a1.data.toList).length≤140737488355328)) (some ⟨⟨Lib.join (a0.map (·.data.toList)) a1.data.toList⟩⟩)
theorem strings_Join.calls{w0:World}{a0:List ByteArray}{a1:ByteArray}{v0_:Value}{r:ByteArray}(h0:Rd (.of .str) w0 (Ol no w0) v0_ a0)(E:strings_Join.f a0 a1=some r):Calls Tryz.prog 110 #[v0_,.string a1] w0 fun e w'=>e= .returned (.string r)∧St no w0 w' []:=by
 obtain⟨⟨g1,g2⟩,E⟩:=ar E
 cases E
 obtain⟨p,c,rfl,h2,h3,h4⟩:=h0
 by_cases hn:a0=[]
 ·subst hn
  refine(Tryz.strings_Join_none p c a1 w0).mono ?_
  rintro _ w' ⟨rfl,rfl⟩
  exact⟨rfl,.nil _ _⟩
 ·rcases h4 with⟨h,_⟩|⟨b,o,rfl,h5,h6⟩
  ·exact absurd h hn
  ·refine(Tryz.strings_Join b o c a0 a1 w0 (fun j x hx=>?_) ?_ g1 h2 g2).mono ?_
   ·obtain⟨cs,rfl,hr⟩:=h6 j x hx
    have:=hr 0 (.string x) rfl
    simpa [bm.str,Kd.of] using this
   ·exact h5.1
   ·rintro _ w' ⟨rfl,hb⟩
    exact⟨rfl,xE hb⟩
end Go.Proofs.YtmhkpafkadijgaaGreatDoor.Gw
namespace Go.Proofs.YtmhkpafkadijgaaGreatDoor.Gw
open Go Go.RowKit Go.Shelf Go.Sort
variable[de]
section
variable{ρ:Option Nat}{N:Nat}{t:Fr}{w w0:World}{X:Nat→Prop}{L:List Rs}{R:Value→World→Prop}{d:Option Nat}{ty T U E:TypeId}{ps:String}{af:Array Edge}{g:Option (Nat×Bool)}{x y z:Operand}{ats:Array TypeId}
theorem D8{P:Program}(hz:Zr P 70 #[.pointer none,.slice none 0 0])(H:St X w0 w L)(h:∀b w',St X w0 w' (L++[.df b (.slice none 0 0) (sb ByteArray.empty)])→R (.pointer (some ⟨b,0,none⟩)) w'):Yd P ρ N ⟨d,.alloc 70,ty,ps,af,g⟩ t w R:=by
 obtain⟨v,h1,h2⟩:=hz
 refine uK h1 h2 (h _ _ (H.new (.alloc _ _ _) Fv ?_))
 rintro b (e|e)
 ·exact Nat.le_of_eq e.symm
 ·cases e
theorem ma{b:Nat}{v:Value}{s s2:ByteArray}(H:St X w0 w L)(q:Nat)(hq:L[q]? =some (.df b v (sb s)))(hf:En Tryz.prog 44)(hx:ev t x= .pointer (some ⟨b,0,none⟩))(hy:ev t y= .string s2)(hn:s.size+s2.size≤140737488355328)(h:∀v' w',St X w0 w' (L.set q (.df b v' (sb (cat s s2))))→R (.tuple #[.int .i64 (s2.size:Int),.nilIface]) w'):Yd Tryz.prog ρ N ⟨d,.call ⟨.value (.func 44),#[x,y],ats⟩,ty,ps,af,g⟩ t w R:=by
 refine au hf (vs:=[.pointer (some ⟨b,0,none⟩),.string s2]) (by simp[hx,hy]) ((FA (H.Gt q hq) (by simpa using hn)).mono ?_)
 rintro _ w' ⟨rfl,v',K⟩
 rw[PB]at K
 have:=H.aV q hq K
 rw[List.append_nil]at this
 exact⟨_,rfl,h v' w' this⟩
theorem D9{b:Nat}{v:Value}{s:ByteArray}(H:St X w0 w L)(q:Nat)(hq:L[q]? =some (.df b v (sb s)))(hf:En Tryz.prog 45)(hx:ev t x= .pointer (some ⟨b,0,none⟩))(h:∀w',St X w0 w' (L.set q .gQ)→R (.string s) w'):Yd Tryz.prog ρ N ⟨d,.call ⟨.value (.func 45),#[x],ats⟩,ty,ps,af,g⟩ t w R:=by
 refine au hf (vs:=[.pointer (some ⟨b,0,none⟩)]) (by simp[hx]) ((Fy (H.Gt q hq)).mono ?_)
 rintro _ w' ⟨rfl,hc⟩
 exact⟨_,rfl,h w' (H.put q hq hc trivial (fun _ e=>e.elim))⟩
theorem xG:∀m:List ByteArray,bm.str.all m=(m.map fun s=>s.data.toList).map encStr
 | []=>rfl
 |a::m=>by
  show [Value.string a]++bm.str.all m=_
  rw[xG m];rfl
theorem Na{E:TypeId}{v:Value}{l:List ByteArray}{i j:Nat}(h:(Rs.own .str E v l).inv w)(hl0:0<l.length)(hij:i≤j)(hj:j≤l.length):
 Calls Tryz.prog 43 #[v,.int .i64 i,.int .i64 j] w fun e w'=>∃v',e= .returned v'∧(Rs.own .str E v' (l.take i++l.drop j)).inv w'∧Ch (Rs.own .str E v l).fp w w'∧v'.ownBlock=v.ownBlock:=by
 rcases id h.2 with⟨hv,hl⟩|⟨g,cap,cur,hv,_,hh,h4,h5,h6,h7⟩
 ·omega
 ·subst hv
  obtain⟨m,hm⟩:∃m:List (List UInt8),m=l.map fun s=>s.data.toList:=⟨_,rfl⟩
  have hn:m.length=l.length:=by rw[hm,List.length_map]
  have e7:cur.toList.take l.length=m.map encStr:=by rw[hm,←xG,←h7];congr 1;exact(Nat.mul_one _).symm
  have hcell:∀k,k<l.length→cur[k]? =some (encStr (m.toArray[k]!)):=fun k hk=>by
   have hk':k<m.length:=by omega
   have:(cur.toList.take l.length)[k]? =some (encStr m[k]):=by rw[e7];simp[hk']
   rw[List.getElem?_take,if_pos hk,Array.getElem?_toList]at this
   rw[this,getElem!_pos m.toArray k (by simpa using hk')]
   simp
  have hH:Holds encStr w g 0 m.toArray:=fun k hk=>by
   have hk':k<l.length:=by rw[←hn];simpa using hk
   refine⟨?_,by simp[World.frozen?,hh]⟩
   have:=hcell k hk'
   simp only[World.cell?,hh,Nat.zero_add]
   exact this
  have c:=Tryz.slices_Delete_string g 0 cap i j m w hH (by rw[hn];exact h4) (by unfold maxLen at h5;omega) hij (by rw[hn];exact hj)
  rw[hn]at c
  obtain⟨D,hDe⟩:∃D,D=m.take i++m.drop j++List.replicate (j-i) []:=⟨_,rfl⟩
  rw[←hDe]at c
  refine c.mono ?_
  rintro _ w' ⟨rfl,q,rfl⟩
  have hlen:(l.take i++l.drop j).length=l.length-(j-i):=by simp;omega
  have hD:D.length=l.length:=by rw[hDe];simp[hn];omega
  have hcs:cur.size=cap:=h6.trans (Nat.mul_one _)
  refine⟨_,rfl,⟨bm.fC _ _,.inr ⟨g,cap,putCells encStr 0 D.toArray cur,by rw[hlen],Nat.zero_le _,?_,by rw[hlen];omega,h5,?_,?_⟩⟩,?_,rfl⟩
  ·have hh':(Sort.ahead w q).heap[g]? =some (.cells cur E (0,0)):=hh
   simp[putRow,mapBlock,Array.getElem?_modify,onCells]
   exact⟨_,hh,rfl⟩
  ·simp only[putCells,Array.size_mapIdx];exact h6
  ·have ht:=take_putCells cur D (by rw[hD];omega)
   rw[hD]at ht
   have e:(l.take i++l.drop j).length*bm.str.sz≤l.length:=by rw[hlen];show _*1≤_;omega
   have e2:(putCells encStr 0 D.toArray cur).toList.take ((l.take i++l.drop j).length*bm.str.sz)=(D.map encStr).take ((l.take i++l.drop j).length*bm.str.sz):=by
    rw[←ht,List.take_take,Nat.min_eq_left e]
   rw[e2,xG,hDe,List.map_append]
   have e3:(l.take i++l.drop j).length*bm.str.sz=((m.take i++m.drop j).map encStr).length:=by
    rw[List.length_map,hlen];simp[hn];show _*1=_;omega
   rw[e3,List.take_left,hm]
   simp[List.map_take,List.map_drop]
  ·refine⟨rfl,rfl,rfl,by simp[putRow,mapBlock,Sort.ahead],fun b hb hx=>?_⟩
   have:¬b=g:=fun e=>hx (by subst e;rfl)
   simp[putRow,mapBlock,Sort.ahead,Array.getElem?_modify,show ¬g=b from fun e=>this e.symm]
theorem Q2{E:TypeId}{v:Value}{l:List ByteArray}{i j:Int}(H:St X w0 w L)(q:Nat)(hq:L[q]? =some (.own .str E v l))(hf:En Tryz.prog 43)(hx:ev t x=v)(hy:ev t y= .int .i64 i)(hz:ev t z= .int .i64 j)(h0:0≤i)(h1:i≤j)(h2:j≤l.length)(h3:0<l.length)(h:∀v' w',St X w0 w' (L.set q (.own .str E v' (l.take i.toNat++l.drop j.toNat)))→R v' w'):Yd Tryz.prog ρ N ⟨d,.call ⟨.value (.func 43),#[x,y,z],ats⟩,ty,ps,af,g⟩ t w R:=by
 have ei:((i.toNat:Nat):Int)=i:=Int.toNat_of_nonneg h0
 have ej:((j.toNat:Nat):Int)=j:=Int.toNat_of_nonneg (by omega)
 refine au hf (vs:=[v,.int .i64 (i.toNat:Nat),.int .i64 (j.toNat:Nat)]) (by simp[hx,hy,hz,ei,ej]) ((Na (H.Gt q hq) h3 (by omega) (by omega)).mono ?_)
 rintro _ w' ⟨v',rfl,k1,k2,k3⟩
 refine⟨_,rfl,h v' w' (H.put q hq k2 k1 fun b hb=> .inl ?_)⟩
 show v.ownBlock=some b
 rw[←k3];exact hb
theorem OL{P:Program}{b n:Nat}{lo:Int}{k:IntKind}(hT:Ar P T n 1)(hx:ev t x= .pointer (some ⟨b,0,none⟩))(hy:ev t y= .int k lo)(h0:0≤lo)(h1:lo<n):Rv P ⟨d,.slice T x (some y) none none,ty,ps,af,g⟩ t w (.slice (some ⟨b,lo.toNat,none⟩) (n-lo.toNat) (n-lo.toNat)):=by
 obtain⟨E,t1,t2⟩:=hT
 have hz:(sizeOf E).run P w= .ok 1 w:=by
  cases hi:P.info? E with
  |none=>simp[hi]at t2
  |some i=>simp only[hi,Option.map_some,Option.some.injEq]at t2;simp[sizeOf,typeInfo,hi,t2]
 have hne:¬n=lo.toNat:=by omega
 have hle:lo≤n:=by omega
 unfold Rv
 simp[execOp,hx,hy,Instr.sliceAt,run_underlying t1,Instr.sureAddr,Instr.sliceBounds,run_sliceBound,h0,hle,hz,hne,Addr.add_lit]
theorem Ob{P:Program}{b n:Nat}{lo:Int}{T' e E:TypeId}{l:List Int}(hs:P.underlying T=some (.slice e))(he:P.underlying e=some (.int .u8))(hd:P.underlying T'=some .string)(h:(Rs.own (.int .u8) E (.slice (some ⟨b,0,none⟩) n n) l).inv w)(hx:ev t x= .slice (some ⟨b,lo.toNat,none⟩) (n-lo.toNat) (n-lo.toNat)):
 Rv P ⟨d,.convert T T' x,ty,ps,af,g⟩ t w (.string (strOfNums (l.drop lo.toNat))):=by
 have hl:=sD h
 have hr:=yw h
 have hc:=run_convert_bytes_arg (P:=P) w T e hs he b lo.toNat (n-lo.toNat) (n-lo.toNat) (l.drop lo.toNat) (by simp[hl]) (fun i hi=>by
  have:=hr (lo.toNat+i) (.int .u8 ((l.drop lo.toNat).getD i 0)) (by
   have:lo.toNat+i<l.length:=by omega
   rw[List.getElem?_map,List.getElem?_eq_getElem this,bF,List.getElem?_drop,List.getElem?_eq_getElem this];rfl)
  simpa using this) T' hd
 unfold Rv
 simp[execOp,hx,hc]
end
end Go.Proofs.YtmhkpafkadijgaaGreatDoor.Gw
namespace Go.Proofs.YtmhkpafkadijgaaGreatDoor.Gw
open Go Go.RowKit
variable[de]
def Rs.env:Rs where
 fp:=fun x=>Rs.gt.fp x∨Rs.lv.fp x
 inv:=fun w=>Rs.gt.inv w∧Rs.lv.inv w
 loc:=fun w w' h ⟨h1,h2⟩=>⟨Rs.gt.loc w w' (fun b hb=>h b (.inl hb)) h1,Rs.lv.loc w w' (fun b hb=>h b (.inr hb)) h2⟩
 bd:=fun w ⟨h1,h2⟩ x hx=>hx.elim (Rs.gt.bd w h1 x) (Rs.lv.bd w h2 x)
theorem Jb(b:Nat)(h:Rs.gt.fp b):¬Rs.lv.fp b:=by
 have h':b=3:=h
 subst h'
 rintro(h|h)<;>revert h<;>decide
theorem sV{w:World}(h1:Rs.gt.inv w)(h2:Rs.lv.inv w):Rs.env.inv w:=⟨h1,h2⟩
theorem vD{w:World}(h:Rs.env.inv w):St Rs.env.fp w w [.gt,.lv]:=by
 refine⟨.refl _ _,?_,?_,?_⟩
 ·intro r hr;simp at hr;rcases hr with rfl|rfl
  ·exact h.1
  ·exact h.2
 ·intro r hr x hx;simp at hr;rcases hr with rfl|rfl
  ·exact .inr (.inl hx)
  ·exact .inr (.inr hx)
 ·refine List.pairwise_cons.2 ⟨fun r hr x hx hy=>?_,List.pairwise_singleton _ _⟩
  rw[List.mem_singleton.1 hr]at hy
  exact Jb x hx hy
section
variable{X:Nat→Prop}{w0 w w':World}{L M:List Rs}
theorem St.yv{r r' s:Rs}(H:St X w0 w L)(q:Nat)(hq:L[q]? =some r)(hs:∀b,s.fp b→r.fp b)(K:St s.fp w w' (s::M))(hr':r'.inv w')(hfp:∀b,r'.fp b→r.fp b):St X w0 w' (L.set q r'++M):=by
 have hr:=H.Gt q hq
 obtain⟨d1,d2⟩:=List.pairwise_cons.1 K.dj
 refine H.aV q hq (r':=r') ⟨K.ch.mono fun b _ hb=>hs b hb,?_,?_,?_⟩
 ·intro u hu
  rcases List.mem_cons.1 hu with rfl|hu
  ·exact hr'
  ·exact K.inv u (List.mem_cons_of_mem _ hu)
 ·intro u hu b hb
  rcases List.mem_cons.1 hu with rfl|hu
  ·exact .inr (hfp b hb)
  ·exact(K.fp u (List.mem_cons_of_mem _ hu) b hb).imp id (hs b)
 ·refine List.pairwise_cons.2 ⟨fun u hu b x y=>?_,d2⟩
  rcases K.fp u (List.mem_cons_of_mem _ hu) b y with h|h
  ·have:=r.bd w hr b (hfp b x);omega
  ·exact d1 u hu b h y
theorem St.sC(H:St X w0 w L)(i j:Nat)(hi:L[i]? =some .gt)(hj:L[j]? =some .lv)(hij:i≠j)(K:St Rs.env.fp w w' (.gt:: .lv::M)):St X w0 w' (L++M):=by
 have ho:∀k (hk:k<L.length),k≠i→k≠j→∀b,L[k].fp b→¬Rs.env.fp b:=fun k hk h1 h2 b hb he=>by
  have hk':L[k]? =some L[k]:=List.getElem?_eq_getElem hk
  exact he.elim (H.apart k i h1 hk' hi b hb) (H.apart k j h2 hk' hj b hb)
 obtain⟨d1,d2⟩:=List.pairwise_cons.1 K.dj
 obtain⟨d3,d4⟩:=List.pairwise_cons.1 d2
 have hinv:∀r∈L,r.inv w':=fun r hr=>by
  obtain⟨k,hk,rfl⟩:=List.getElem_of_mem hr
  by_cases h1:k=i
  ·subst h1
   have:L[k]=Rs.gt:=by rw[List.getElem?_eq_getElem hk]at hi;exact Option.some.inj hi
   rw[this];exact K.Gt 0 rfl
  ·by_cases h2:k=j
   ·subst h2
    have:L[k]=Rs.lv:=by rw[List.getElem?_eq_getElem hk]at hj;exact Option.some.inj hj
    rw[this];exact K.Gt 1 rfl
   ·exact Rs.keep (H.inv _ (List.getElem_mem hk)) K.ch (ho k hk h1 h2)
 have gi:=H.Gt i hi
 have gj:=H.Gt j hj
 refine⟨H.ch.trans' K.ch (fun b hb he=>?_),?_,?_,?_⟩
 ·rcases he with h|h
  ·exact(H.fp _ (List.mem_of_getElem? hi) b h).resolve_left (by omega)
  ·exact(H.fp _ (List.mem_of_getElem? hj) b h).resolve_left (by omega)
 ·intro r hr
  rcases List.mem_append.1 hr with h|h
  ·exact hinv r h
  ·exact K.inv r (List.mem_cons_of_mem _ (List.mem_cons_of_mem _ h))
 ·intro r hr b hb
  rcases List.mem_append.1 hr with h|h
  ·exact H.fp r h b hb
  ·rcases K.fp r (List.mem_cons_of_mem _ (List.mem_cons_of_mem _ h)) b hb with h2|h2
   ·exact .inl (Nat.le_trans H.ch.size h2)
   ·exact(h2.elim (fun x=>d1 r (List.mem_cons_of_mem _ h) b x hb) (fun x=>d3 r h b x hb)).elim
 ·refine List.pairwise_append.2 ⟨H.dj,d4,fun r hr s hs b x y=>?_⟩
  rcases K.fp s (List.mem_cons_of_mem _ (List.mem_cons_of_mem _ hs)) b y with h2|h2
  ·have:=r.bd w (H.inv r hr) b x;omega
  ·exact h2.elim (fun z=>d1 s (List.mem_cons_of_mem _ hs) b z y) (fun z=>d3 s hs b z y)
theorem St.less{r r':Rs}(H:St X w0 w L)(q:Nat)(hq:L[q]? =some r)(hr':r.inv w→r'.inv w)(hfp:∀b,r'.fp b→r.fp b):St X w0 w (L.set q r'):=
 H.put q hq (.refl _ _) (hr' (H.Gt q hq)) fun b hb=> .inl (hfp b hb)
end
structure DS where
 f1:Option FD
 f2:Option FD
 f3:Option FD
def DS.g(d:DS):Nat→Option FD
 |1=>d.f1
 |2=>d.f2
 |3=>d.f3
 |_=>none
def lx:Option FD→List Value
 |none=> [.int .u32 0,.int .i32 0,.int .u32 0,.int .i32 0,.pointer none]
 |some f=> [.int .u32 1,.int .i32 0,.int .u32 0,.int .i32 1,.pointer (some ⟨f.p,0,none⟩)]
def jg(d:DS)(cnt:List Int):List Value:=lx none++lx d.f1++lx d.f2++lx d.f3++cnt.map (Value.int .i64)
def DS.own(d:DS)(b:Nat):Prop:=∃i f,d.g i=some f∧(b=f.p∨b=f.t)
def Rs.gd(b:Nat)(d:DS)(n:List Int):Rs where
 fp:=fun x=>x=b∨x=3∨d.own x
 inv:=fun w=>Rs.gt.inv w∧¬b=3∧(n.length=16∧(Rs.blk b (jg d n).toArray 121).inv w)∧¬d.own b∧
  (∀i f,d.g i=some f→f.k=i∧(Rs.ah f).inv w)∧(∀i j f g,d.g i=some f→d.g j=some g→i≠j→∀x,(x=f.p∨x=f.t)→¬(x=g.p∨x=g.t))
 loc:=by
  rintro w w' h ⟨h1,h2,⟨h3,h4⟩,h5,h6,h7⟩
  refine⟨Rs.gt.loc w w' (fun x hx=>h x (.inr (.inl hx))) h1,h2,⟨h3,(Rs.blk b (jg d n).toArray 121).loc w w' (fun x hx=>h x (.inl hx)) h4⟩,h5,fun i f hf=>?_,h7⟩
  refine⟨(h6 i f hf).1,(Rs.ah f).loc w w' (fun x hx=>?_) (h6 i f hf).2⟩
  rcases(hx:x=f.p∨x=f.t∨x=3)with hx|hx|hx
  ·exact h x (.inr (.inr ⟨i,f,hf,.inl hx⟩))
  ·exact h x (.inr (.inr ⟨i,f,hf,.inr hx⟩))
  ·exact h x (.inr (.inl hx))
 bd:=by
  rintro w ⟨h1,h2,⟨h3,h4⟩,h5,h6,h7⟩ x hx
  rcases hx with hx|hx|⟨i,f,hf,hx⟩
  ·exact(Rs.blk b (jg d n).toArray 121).bd w h4 x hx
  ·exact Rs.gt.bd w h1 x hx
  ·exact(Rs.ah f).bd w (h6 i f hf).2 x (hx.imp id .inl)
theorem nO{g:FD}{w w':World}(h:(Rs.ah g).inv w)(hg:Rs.gt.inv w')(hk:∀b,(b=g.p∨b=g.t)→w'.heap[b]? =w.heap[b]?):(Rs.ah g).inv w':=by
 obtain⟨h1,h2,⟨a,b,c,m,e1,e2,e3⟩|⟨a,b,c⟩|⟨a,b,c⟩⟩:=h
 ·exact⟨hg,h2,.inl ⟨a,(hk _ (.inl rfl)).trans b,c,m,hg,e2,(hk _ (.inr rfl)).trans e3⟩⟩
 ·exact⟨hg,h2,.inr (.inl ⟨a,(hk _ (.inl rfl)).trans b,c⟩)⟩
 ·exact⟨hg,h2,.inr (.inr ⟨a,(hk _ (.inl rfl)).trans b,c⟩)⟩
theorem vI{g:FD}{w:World}(h:(Rs.ah g).inv w):∀x,(x=g.p∨x=g.t)→¬x=3:=by
 obtain⟨h1,h2,⟨a,b,c,m,e1,e2,e3⟩|⟨a,b,c⟩|⟨a,b,c⟩⟩:=h
 ·rintro x (rfl|rfl)
  ·exact h2
  ·exact e2
 ·rintro x (rfl|rfl)
  ·exact h2
  ·rw[c];exact h2
 ·rintro x (rfl|rfl)
  ·exact h2
  ·rw[c];exact h2
def DS.has(d:DS)(f:FD):Prop:=∃i,d.g i=some f
theorem my{b:Nat}{n:List Int}{d:DS}{w:World}(h:(Rs.gd b d n).inv w):Rs.gt.inv w:=h.1
theorem Am{b:Nat}{n:List Int}{d:DS}{w:World}{f:FD}(h:(Rs.gd b d n).inv w)(hf:d.has f):(Rs.ah f).inv w:=hf.elim fun i e=>(h.2.2.2.2.1 i f e).2
theorem An{b:Nat}{n:List Int}{d:DS}{f:FD}(hf:d.has f)(x:Nat)(hx:(Rs.ah f).fp x):(Rs.gd b d n).fp x:=by
 obtain⟨i,hf⟩:=hf
 rcases(hx:x=f.p∨x=f.t∨x=3)with hx|hx|hx
 ·exact .inr (.inr ⟨i,f,hf,.inl hx⟩)
 ·exact .inr (.inr ⟨i,f,hf,.inr hx⟩)
 ·exact .inr (.inl hx)
theorem IX{b:Nat}{n:List Int}{d:DS}{f:FD}{w:World}(h:(Rs.gd b d n).inv w)(hf:d.has f):¬(Rs.ah f).fp b:=by
 obtain⟨i,hf⟩:=hf
 intro hx
 rcases(hx:b=f.p∨b=f.t∨b=3)with hx|hx|hx
 ·exact h.2.2.2.1 ⟨i,f,hf,.inl hx⟩
 ·exact h.2.2.2.1 ⟨i,f,hf,.inr hx⟩
 ·exact h.2.1 hx
theorem IY{b:Nat}{n:List Int}{d:DS}{f:FD}{w w':World}(h:(Rs.gd b d n).inv w)(hf:d.has f)(hc:Ch (Rs.ah f).fp w w')(hi:(Rs.ah f).inv w'):(Rs.gd b d n).inv w':=by
 have hb:=IX h hf
 have hbd:=(Rs.gd b d n).bd w h
 obtain⟨h1,h2,⟨h3,h4⟩,h5,h6,h7⟩:=id h
 obtain⟨j,hf⟩:=hf
 refine⟨hi.1,h2,⟨h3,(hc.block b (hbd b (.inl rfl)) hb).trans h4⟩,h5,fun i g hg=>⟨(h6 i g hg).1,?_⟩,h7⟩
 by_cases e:i=j
 ·subst e
  rw[hg]at hf;injection hf with e;subst e;exact hi
 ·have hgi:=(h6 i g hg).2
  refine nO hgi hi.1 fun x hx=>hc.block x (hbd x (.inr (.inr ⟨i,g,hg,hx⟩))) ?_
  rintro(y|y|y)
  ·exact h7 i j g f hg hf e x hx (.inl y)
  ·exact h7 i j g f hg hf e x hx (.inr y)
  ·exact vI hgi x hx y
theorem IW{b:Nat}{n:List Int}{d:DS}{w w':World}(h:(Rs.gd b d n).inv w)(hc:Ch Rs.gt.fp w w')(hi:Rs.gt.inv w'):(Rs.gd b d n).inv w':=by
 have hbd:=(Rs.gd b d n).bd w h
 obtain⟨h1,h2,⟨h3,h4⟩,h5,h6,h7⟩:=id h
 refine⟨hi,h2,⟨h3,(hc.block b (hbd b (.inl rfl)) h2).trans h4⟩,h5,fun i g hg=>⟨(h6 i g hg).1,?_⟩,h7⟩
 exact nO (h6 i g hg).2 hi fun x hx=>hc.block x (hbd x (.inr (.inr ⟨i,g,hg,hx⟩))) (vI (h6 i g hg).2 x hx)
theorem sI:∀i,(⟨none,none,none⟩:DS).g i=none:=by
 intro i
 match i with
 |0=>rfl
 |1=>rfl
 |2=>rfl
 |3=>rfl
 |_+4=>rfl
section
variable{P:Program}{ρ:Option Nat}{N:Nat}{t:Fr}{w w' w0:World}{X:Nat→Prop}{L M:List Rs}{R:Value→World→Prop}{dd:Option Nat}{ty T:TypeId}{ps:String}{af:Array Edge}{g:Option (Nat×Bool)}{x y:Operand}{b:Nat}{d:DS}{n:List Int}
theorem St.yu{f:FD}(H:St X w0 w L)(q:Nat)(hq:L[q]? =some (.gd b d n))(hf:d.has f)(K:St (Rs.ah f).fp w w' (.ah f::M)):St X w0 w' (L.set q (.gd b d n)++M):=
 H.yv q hq (An hf) K (IY (H.Gt q hq) hf K.ch (K.Gt 0 rfl)) fun _ h=>h
theorem St.oU(H:St X w0 w L)(q:Nat)(hq:L[q]? =some (.gd b d n))(K:St Rs.gt.fp w w' (.gt::M)):St X w0 w' (L.set q (.gd b d n)++M):=
 H.yv q hq (fun x hx=> .inr (.inl hx)) K (IW (H.Gt q hq) K.ch (K.Gt 0 rfl)) fun _ h=>h
theorem wU{f:FD}{α:Type}{κ:Kd α}{v:Value}{l:List α}(hf:d.has f)(h:Rd κ w (Ol (Rs.gd b d n).fp w) v l):Rd κ w (Ol (Rs.ah f).fp w) v l:=h.mono fun x hx=>⟨hx.1,fun y=>hx.2 (An hf x y)⟩
theorem qd{α:Type}{κ:Kd α}{v:Value}{l:List α}(h:Rd κ w (Ol (Rs.gd b d n).fp w) v l):Rd κ w (Ol Rs.gt.fp w) v l:=h.mono fun x hx=>⟨hx.1,fun y=>hx.2 (.inr (.inl y))⟩
theorem uk{fs:Array Field}{v:Value}(hT:P.underlying T=some (.struct fs))(hx:ev t x=v):Rv P ⟨dd,.makeInterface T x,ty,ps,af,g⟩ t w (.iface T v):=by
 unfold Rv
 simp[execOp,hx,Instr.makeInterface,run_underlying hT,Sem.run_bind]
theorem QT{cs:List Value}(H:St X w0 w L)(q:Nat)(hq:L[q]? =some .gt)(hx:ev t x= .agg cs.toArray)(hc:cs=jg ⟨none,none,none⟩ (List.replicate 16 0))(h:∀b w',St X w0 w' (L.set q (.gd b ⟨none,none,none⟩ (List.replicate 16 0)))→R (.pointer (some ⟨b,0,none⟩)) w'):Yd P ρ N ⟨dd,.box 121 x,ty,ps,af,g⟩ t w R:=by
 have hg:=H.Gt q hq
 have hlt:=Rs.gt.bd w hg 3 rfl
 refine xV (cs:=cs.toArray) (by rw[hx];rfl) (h _ _ (H.put q hq (.alloc _ _ _) ⟨Rs.keep hg (.alloc no _ _) (fun _ _ h=>h),by omega,⟨by simp,?_⟩,?_,?_,?_⟩ ?_))
 ·subst hc
  show(w.heap.push _)[w.heap.size]? =_
  simp
 ·rintro⟨i,f,e,_⟩;rw[sI]at e;cases e
 ·intro i f e;rw[sI]at e;cases e
 ·intro i j f g e;rw[sI]at e;cases e
 ·rintro x (e|e|⟨i,f,e,_⟩)
  ·exact .inr (Nat.le_of_eq e.symm)
  ·exact .inl e
  ·rw[sI]at e;cases e
end
section
variable{X:Nat→Prop}{w0 w w':World}{L M:List Rs}{b c:Nat}{d:DS}{n:List Int}
theorem St.Fp{Y:Nat→Prop}{s ri rj:Rs}(H:St X w0 w L)(i j:Nat)(hi:L[i]? =some ri)(hj:L[j]? =some rj)(K:St Y w w' (s::M))(hY:∀x,Y x→ri.fp x∨rj.fp x)(hs:∀x,Y x→s.fp x)(gi:ri.inv w')(gj:rj.inv w'):St X w0 w' (L++M):=by
 have ho:∀k (hk:k<L.length),k≠i→k≠j→∀x,L[k].fp x→¬Y x:=fun k hk h1 h2 x hx he=>by
  have hk':L[k]? =some L[k]:=List.getElem?_eq_getElem hk
  exact(hY x he).elim (H.apart k i h1 hk' hi x hx) (H.apart k j h2 hk' hj x hx)
 obtain⟨d1,d2⟩:=List.pairwise_cons.1 K.dj
 have hinv:∀r∈L,r.inv w':=fun r hr=>by
  obtain⟨k,hk,rfl⟩:=List.getElem_of_mem hr
  by_cases h1:k=i
  ·subst h1
   have:L[k]=ri:=by rw[List.getElem?_eq_getElem hk]at hi;exact Option.some.inj hi
   rw[this];exact gi
  ·by_cases h2:k=j
   ·subst h2
    have:L[k]=rj:=by rw[List.getElem?_eq_getElem hk]at hj;exact Option.some.inj hj
    rw[this];exact gj
   ·exact Rs.keep (H.inv _ (List.getElem_mem hk)) K.ch (ho k hk h1 h2)
 have bi:=H.Gt i hi
 have bj:=H.Gt j hj
 refine⟨H.ch.trans' K.ch (fun x hx he=>?_),?_,?_,?_⟩
 ·rcases hY x he with h|h
  ·exact(H.fp _ (List.mem_of_getElem? hi) x h).resolve_left (by omega)
  ·exact(H.fp _ (List.mem_of_getElem? hj) x h).resolve_left (by omega)
 ·intro r hr
  rcases List.mem_append.1 hr with h|h
  ·exact hinv r h
  ·exact K.inv r (List.mem_cons_of_mem _ h)
 ·intro r hr x hx
  rcases List.mem_append.1 hr with h|h
  ·exact H.fp r h x hx
  ·rcases K.fp r (List.mem_cons_of_mem _ h) x hx with h2|h2
   ·exact .inl (Nat.le_trans H.ch.size h2)
   ·exact absurd hx (d1 r h x (hs x h2))
 ·refine List.pairwise_append.2 ⟨H.dj,d2,fun r hr s' hs' x u v=>?_⟩
  rcases K.fp s' (List.mem_cons_of_mem _ hs') x v with h2|h2
  ·have:=r.bd w (H.inv r hr) x u;omega
  ·exact d1 s' hs' x (hs x h2) v
theorem IK(H:St X w0 w L)(q gq:Nat)(hq:L[q]? =some (.blk b jI 186))(hg:L[gq]? =some (.gd c d n))(hne:(q==gq)=false):(Rs.ah ⟨b,2,b⟩).inv w:=
 ⟨my (H.Gt gq hg),fun e=>H.apart q gq (by simpa using hne) hq hg b rfl (.inr (.inl e)),.inr (.inl ⟨rfl,H.Gt q hq,rfl⟩)⟩
theorem St.M7{α:Type}{κ:Kd α}{v:Value}{l:List α}{s:Rs}(H:St X w0 w L)(p q gq:Nat)(hp:L[p]? =some s)(hq:L[q]? =some (.blk b jI 186))(hg:L[gq]? =some (.gd c d n))(h1:(p==q)=false)(h2:(p==gq)=false)(h:Rd κ w s.fp v l):Rd κ w (Ol (Rs.ah ⟨b,2,b⟩).fp w) v l:=
 h.mono fun x hx=>⟨s.bd w (H.Gt p hp) x hx,fun y=>by
  rcases(y:x=b∨x=b∨x=3)with y|y|y
  ·exact H.apart p q (by simpa using h1) hp hq x hx y
  ·exact H.apart p q (by simpa using h1) hp hq x hx y
  ·exact H.apart p gq (by simpa using h2) hp hg x hx (.inr (.inl y))⟩
theorem St.Fq(H:St X w0 w L)(q gq:Nat)(hq:L[q]? =some (.blk b jI 186))(hg:L[gq]? =some (.gd c d n))(hne:(q==gq)=false)(K:St (Rs.ah ⟨b,2,b⟩).fp w w' (.ah ⟨b,2,b⟩::M)):St X w0 w' (L++M):=by
 have hf:=K.Gt 0 rfl
 have hgd:=H.Gt gq hg
 have hbd:=(Rs.gd c d n).bd w hgd
 have hap:∀x,(Rs.gd c d n).fp x→¬x=b:=fun x hx e=>H.apart q gq (by simpa using hne) hq hg x e hx
 refine H.Fp q gq hq hg K (fun x hx=>?_) (fun x hx=>hx) ?_ ?_
 ·rcases(hx:x=b∨x=b∨x=3)with e|e|e
  ·exact .inl e
  ·exact .inl e
  ·exact .inr (.inr (.inl e))
 ·rcases hf.2.2 with⟨e,_⟩|⟨_,e,_⟩|⟨e,_⟩
  ·cases e
  ·exact e
  ·cases e
 ·obtain⟨h1,h2,⟨h3,h4⟩,h5,h6,h7⟩:=id hgd
  have hk:∀x,(Rs.gd c d n).fp x→¬x=3→w'.heap[x]? =w.heap[x]? :=fun x hx hl=>K.ch.block x (hbd x hx) fun y=>by
   rcases(y:x=b∨x=b∨x=3)with e|e|e
   ·exact hap x hx e
   ·exact hap x hx e
   ·exact hl e
  refine⟨hf.1,h2,⟨h3,(hk c (.inl rfl) h2).trans h4⟩,h5,fun i f e=>⟨(h6 i f e).1,nO (h6 i f e).2 hf.1 fun x hx=>hk x (.inr (.inr ⟨i,f,e,hx⟩)) (vI (h6 i f e).2 x hx)⟩,h7⟩
end
section
variable{w w0:World}{L:List Rs}{α:Type}{κ:Kd α}{v:Value}{l:List α}
theorem IB(H:St Rs.env.fp w0 w L)(hi:L[0]? =some .gt)(hj:L[1]? =some .lv)(hf:Rs.env.inv w0)(h:Rd κ w0 (Ol no w0) v l):Rd κ w (Ol no w0) v l:=
 h.keep fun b hb=>by
  by_cases hE:Rs.env.fp b
  ·rcases hE with e|e|e
   ·have e':b=3:=e
    rw[e'];exact(H.Gt 0 hi).2.trans hf.1.2.symm
   ·rw[e];exact(H.Gt 1 hj).2.1.trans hf.2.2.1.symm
   ·rw[e];exact(H.Gt 1 hj).2.2.trans hf.2.2.2.symm
  ·exact H.ch.block b hb.1 hE
theorem Iz{X:Nat→Prop}(H:St X w0 w L)(h:Rd κ w (Ol no w0) v l):Rd κ w (Ol no w) v l:=
 h.mono fun _ hb=>⟨Nat.lt_of_lt_of_le hb.1 H.ch.size,fun x=>x⟩
theorem IA(H:St Rs.env.fp w0 w [.gt,.lv])(hf:Rs.env.inv w0):Ch no w0 w:=
 ⟨H.ch.os,H.ch.tape,H.ch.output,H.ch.size,fun b hb _=>by
  by_cases hE:Rs.env.fp b
  ·rcases hE with e|e|e
   ·have e':b=3:=e
    rw[e'];exact(H.Gt 0 rfl).2.trans hf.1.2.symm
   ·rw[e];exact(H.Gt 1 rfl).2.1.trans hf.2.2.1.symm
   ·rw[e];exact(H.Gt 1 rfl).2.2.trans hf.2.2.2.symm
  ·exact H.ch.block b hb hE⟩
end
variable[de]
theorem Ft:Bd Tryz.prog 278 kY.toArray [(0,3),(3,1),(4,766)]:=⟨_,.agg kY.toArray,Tryz.underlying278,by kernel_rfl,rfl,fun w=>by kernel_rfl⟩
theorem xU{ρ:Option Nat}{N:Nat}{t:Fr}{w w0:World}{X:Nat→Prop}{L:List Rs}{R:Value→World→Prop}{d:Option Nat}{ty T1:TypeId}{ps:String}{af:Array Edge}{g:Option (Nat×Bool)}{b o:Nat}{cs:Array Value}{xs:Array Operand}{ats:Array TypeId}(H:St X w0 w L)(q:Nat)(hq:L[q]? =some (.blk b cs T1))(hc:cs[o]? =some (.int .i32 0))(hf:En Tryz.prog 164)(hv:xs.toList.map (ev t)=[.pointer (some ⟨b,o,none⟩),.int .i32 1]){cs':Array Value}(hs:cs.setIfInBounds o (.int .i32 1)=cs')(h:∀w',St X w0 w' (L.set q (.blk b cs' T1))→R (.int .i32 1) w'):Yd Tryz.prog ρ N ⟨d,.call ⟨.value (.func 164),xs,ats⟩,ty,ps,af,g⟩ t w R:=by
 have hb:=H.Gt q hq
 refine au hf hv ((BU ⟨b,o,none⟩ w (ak hb hc) (dR hb)).mono ?_)
 rintro _ w' ⟨rfl,rfl⟩
 refine⟨_,rfl,h _ (H.put q hq (.set _ _ _ rfl) ?_ (fun _ e=> .inl e))⟩
 have:=ll (o:=o) (.int .i32 1) hb
 rw[hs]at this;exact this
theorem xX{ρ:Option Nat}{N:Nat}{t:Fr}{w w0:World}{X:Nat→Prop}{L:List Rs}{R:Value→World→Prop}{d:Option Nat}{ty T1:TypeId}{ps:String}{af:Array Edge}{g:Option (Nat×Bool)}{b o:Nat}{cs:Array Value}{xs:Array Operand}{ats:Array TypeId}{fv:Value}(H:St X w0 w L)(q:Nat)(hq:L[q]? =some (.blk b cs T1))(hc:cs[o]? =some (.int .u32 1))(hf:En Tryz.prog 162)(hv:xs.toList.map (ev t)=[.pointer (some ⟨b,o,none⟩),fv])(h:∀w',St X w0 w' L→R (.tuple #[]) w'):Yd Tryz.prog ρ N ⟨d,.call ⟨.value (.func 162),xs,ats⟩,ty,ps,af,g⟩ t w R:=by
 have hb:=H.Gt q hq
 refine au hf hv ((BW ⟨b,o,none⟩ 1 (by decide) fv w (ak hb hc)).mono ?_)
 rintro _ w' ⟨rfl,rfl⟩
 exact⟨_,rfl,h _ H⟩
theorem wQ:Tryz.prog.follows .mixedOrders=true:=by kernel_rfl
theorem fP:Sc Tryz.prog 252:=⟨_,Tryz.underlying252,rfl⟩
theorem wR:Sc Tryz.prog 3:=⟨_,Tryz.underlying3,rfl⟩
theorem wO:En Tryz.prog 77:=⟨_,_,Tryz.func77,by kernel_rfl,rfl⟩
theorem MI:En Tryz.prog 113:=⟨_,_,Tryz.func113,by kernel_rfl,rfl⟩
theorem MF:Bd Tryz.prog 182 #[.pointer none] [(0,1)]:=⟨_,.agg #[.pointer none],Tryz.underlying182,by kernel_rfl,rfl,fun w=>by kernel_rfl⟩
theorem wL:Bd Tryz.prog 186 #[.nilIface,.int .i64 0] [(0,1),(1,1)]:=⟨_,.agg #[.nilIface,.int .i64 0],Tryz.underlying186,by kernel_rfl,rfl,fun w=>by kernel_rfl⟩
theorem lL:Fa Tryz.prog 113 2 4:=⟨_,_,Tryz.underlying113,rfl,rfl,0,by kernel_rfl⟩
theorem wS:Sz Tryz.prog 111 1:=by show _=_;kernel_rfl
theorem wP:Fa Tryz.prog 113 1 3:=⟨_,_,Tryz.underlying113,rfl,rfl,0,by kernel_rfl⟩
theorem wN:En Tryz.prog 164:=⟨_,_,Tryz.func164,by kernel_rfl,rfl⟩
theorem qb:Fa Tryz.prog 113 0 0:=⟨_,_,Tryz.underlying113,rfl,rfl,2,by kernel_rfl⟩
theorem pZ:En Tryz.prog 162:=⟨_,_,Tryz.func162,by kernel_rfl,rfl⟩
theorem qc:Sc Tryz.prog 111:=⟨_,Tryz.underlying111,rfl⟩
theorem MG:Bd Tryz.prog 187 #[] []:=⟨_,.agg #[],Tryz.underlying187,by kernel_rfl,rfl,fun w=>by kernel_rfl⟩
theorem MH:Bd Tryz.prog 188 #[] []:=⟨_,.agg #[],Tryz.underlying188,by kernel_rfl,rfl,fun w=>by kernel_rfl⟩
theorem MJ{w0 w:World}{X:Nat→Prop}{b_ fa_ fb_:Nat}{c0_ c1_ c2_ c3_ c4_ c10_ c11_ c12_ c13_ c14_ c15_ c16_ c17_ c18_ c19_ c20_ c21_ c22_ c23_ c24_ c25_ c26_ c27_ c28_ c29_ c30_ c31_ c32_ c33_ c34_ c35_:Value}(H:St X w0 w [.blk b_ #[c0_,c1_,c2_,c3_,c4_,.int .u32 0,.int .i32 1,.int .u32 0,.int .i32 0,.pointer none,c10_,c11_,c12_,c13_,c14_,c15_,c16_,c17_,c18_,c19_,c20_,c21_,c22_,c23_,c24_,c25_,c26_,c27_,c28_,c29_,c30_,c31_,c32_,c33_,c34_,c35_] 121,.blk fb_ #[.pointer (some ⟨b_,5,none⟩)] 252,.blk fa_ #[.int .i64 1] 3]):
 Calls Tryz.prog 163 #[.pointer (some ⟨fa_,0,none⟩),.pointer (some ⟨fb_,0,none⟩)] w fun e w'=>e= .returned (.tuple #[])∧∃b5,∃b6,St X w0 w' [.blk b_ #[c0_,c1_,c2_,c3_,c4_,.int .u32 0,.int .i32 1,.int .u32 0,.int .i32 1,.pointer (some ⟨b6,0,none⟩),c10_,c11_,c12_,c13_,c14_,c15_,c16_,c17_,c18_,c19_,c20_,c21_,c22_,c23_,c24_,c25_,c26_,c27_,c28_,c29_,c30_,c31_,c32_,c33_,c34_,c35_] 121,.blk fb_ #[.pointer (some ⟨b_,5,none⟩)] 252,.blk fa_ #[.int .i64 1] 3,.blk b5 kY.toArray 278,.blk b6 #[.iface 182 (.agg #[.pointer (some ⟨b5,0,none⟩)]),.int .i64 1] 186]:=by
 refine aP (N:=11) (args:=[.pointer (some ⟨fa_,0,none⟩),.pointer (some ⟨fb_,0,none⟩)]) Tryz.func163 rfl rfl (by simp) ?_
 refine ae (cd (ds:=[5]) wQ H rfl rfl ?_)
 have H:=H.drew
 refine kI (i:=0) (l':=#[true,false,false,false,false,false]) rfl rfl rfl (by kernel_rfl) H (fun w H=>av fP rfl (ak (H.Gt 1 rfl) rfl)) (kI (i:=1) (l':=#[true,true,false,false,false,false]) rfl rfl rfl (by kernel_rfl) H (fun w H=>av wR rfl (ak (H.Gt 2 rfl) rfl)) (nj (i:=2) (l':=#[true,true,true,false,false,false]) rfl rfl rfl (by kernel_rfl) (cm 26 [.int .i64 1] wO Tryz.func77 rfl rfl rfl rfl (rg (v_ rfl (sg (.pointer none) rfl) (nl (ae (rg (v_ rfl (mv (.int .i64 1) rfl) (nl (aG (rg (v_ rfl (bJ (v':= .bool true) (cg rfl rfl) rfl) (v_ rfl (sg (.bool true) rfl) (nl (cl rfl (rg (e_ rfl (cm 3 [] MI Tryz.func113 rfl rfl rfl rfl (rg (v_ rfl (sg (.pointer none) rfl) (nl (rg (v_ rfl (cf (cs:=kY) Ft rfl) (e_ rfl (bc (cs:=kY.toArray) H rfl (fun b5 w H=>v_ rfl (sg (.pointer (some ⟨b5,0,none⟩)) rfl) (nl (aj (⟨.inl rfl,.pointer (some ⟨b5,0,none⟩),tk0 rfl ⟨ba rfl (ad ai) rfl,v_ rfl (cf (cs:=[.pointer (some ⟨b5,0,none⟩)]) MF rfl) (v_ rfl (uk Tryz.underlying182 rfl) (v_ rfl (mv (.int .i64 1) rfl) (v_ rfl (cf (cs:=[.iface 182 (.agg #[.pointer (some ⟨b5,0,none⟩)]),.int .i64 1]) wL rfl) (e_ rfl (bc (cs:=#[.iface 182 (.agg #[.pointer (some ⟨b5,0,none⟩)]),.int .i64 1]) H rfl (fun b6 w H=>v_ rfl (sg (.pointer (some ⟨b6,0,none⟩)) rfl) (nl (aj (bG (aL ⟨.inl rfl,.pointer (some ⟨b6,0,none⟩),tk0 rfl ⟨ba rfl (ad ai) rfl,(⟨fun _=>H.ag [0,1,2] rfl rfl,sd (i:=3) (l':=#[true,true,true,true,false,false]) rfl rfl rfl (by kernel_rfl) (H.ag [0,1,2] rfl rfl) (bw rfl) (kI (i:=4) (l':=#[true,true,true,true,true,false]) rfl rfl rfl (by kernel_rfl) (H.ag [0,1,2] rfl rfl) (fun w H=>az lL rfl) (nj (i:=5) (l':=#[true,true,true,true,true,true]) rfl rfl rfl (by kernel_rfl) (cQ wS H 0 rfl rfl rfl rfl rfl (fun w H=>⟨fun h=>(h (by decide)).elim,?_⟩))))⟩)⟩⟩))))))))))⟩⟩))))))))))))))))))))))))))))))
 refine uF (by kernel_rfl) (ab (aH (v_ rfl (av fP rfl (ak (H.Gt 1 rfl) rfl)) (v_ rfl (bw rfl) (v_ rfl (az wP rfl) (e_ rfl (xU H 0 rfl rfl wN rfl rfl (fun w H=>(aK ?_)))))))))
 exact⟨.inr rfl,_,tk0 rfl ⟨aB rfl ai,rfl,_,_,H⟩⟩
theorem Q3{ρ:Option Nat}{N:Nat}{t:Fr}{w0 w:World}{X:Nat→Prop}{R:Value→World→Prop}{d:Option Nat}{ty:TypeId}{ps:String}{af:Array Edge}{g:Option (Nat×Bool)}{xs:Array Operand}{ats:Array TypeId}{b_ fa_ fb_:Nat}{c0_ c1_ c2_ c3_ c4_ c10_ c11_ c12_ c13_ c14_ c15_ c16_ c17_ c18_ c19_ c20_ c21_ c22_ c23_ c24_ c25_ c26_ c27_ c28_ c29_ c30_ c31_ c32_ c33_ c34_ c35_:Value}(H:St X w0 w [.blk b_ #[c0_,c1_,c2_,c3_,c4_,.int .u32 0,.int .i32 0,.int .u32 0,.int .i32 0,.pointer none,c10_,c11_,c12_,c13_,c14_,c15_,c16_,c17_,c18_,c19_,c20_,c21_,c22_,c23_,c24_,c25_,c26_,c27_,c28_,c29_,c30_,c31_,c32_,c33_,c34_,c35_] 121,.blk fb_ #[.pointer (some ⟨b_,5,none⟩)] 252,.blk fa_ #[.int .i64 1] 3])(hf:En Tryz.prog 162)(hv:xs.toList.map (ev t)=[.pointer (some ⟨b_,5,none⟩),.func (.func 163) #[] #[.pointer (some ⟨fa_,0,none⟩),.pointer (some ⟨fb_,0,none⟩)]])(h:∀b5 b6 w',St X w0 w' [.blk b_ #[c0_,c1_,c2_,c3_,c4_,.int .u32 1,.int .i32 0,.int .u32 0,.int .i32 1,.pointer (some ⟨b6,0,none⟩),c10_,c11_,c12_,c13_,c14_,c15_,c16_,c17_,c18_,c19_,c20_,c21_,c22_,c23_,c24_,c25_,c26_,c27_,c28_,c29_,c30_,c31_,c32_,c33_,c34_,c35_] 121,.blk fb_ #[.pointer (some ⟨b_,5,none⟩)] 252,.blk fa_ #[.int .i64 1] 3,.blk b5 kY.toArray 278,.blk b6 #[.iface 182 (.agg #[.pointer (some ⟨b5,0,none⟩)]),.int .i64 1] 186]→R (.tuple #[]) w'):Yd Tryz.prog ρ N ⟨d,.call ⟨.value (.func 162),xs,ats⟩,ty,ps,af,g⟩ t w R:=by
 have hb:=H.Gt 0 rfl
 have H1:St X w0 (w.setCell ⟨b_,6,none⟩ (.int .i32 1)) [.blk b_ #[c0_,c1_,c2_,c3_,c4_,.int .u32 0,.int .i32 1,.int .u32 0,.int .i32 0,.pointer none,c10_,c11_,c12_,c13_,c14_,c15_,c16_,c17_,c18_,c19_,c20_,c21_,c22_,c23_,c24_,c25_,c26_,c27_,c28_,c29_,c30_,c31_,c32_,c33_,c34_,c35_] 121,.blk fb_ #[.pointer (some ⟨b_,5,none⟩)] 252,.blk fa_ #[.int .i64 1] 3]:=H.store 0 rfl 6 (.int .i32 1)
 refine au hf hv ((wV b_ 5 (.pointer (some ⟨fa_,0,none⟩)) (.pointer (some ⟨fb_,0,none⟩)) w (fun w'=>∃b5,∃b6,St X w0 w' [.blk b_ #[c0_,c1_,c2_,c3_,c4_,.int .u32 0,.int .i32 1,.int .u32 0,.int .i32 1,.pointer (some ⟨b6,0,none⟩),c10_,c11_,c12_,c13_,c14_,c15_,c16_,c17_,c18_,c19_,c20_,c21_,c22_,c23_,c24_,c25_,c26_,c27_,c28_,c29_,c30_,c31_,c32_,c33_,c34_,c35_] 121,.blk fb_ #[.pointer (some ⟨b_,5,none⟩)] 252,.blk fa_ #[.int .i64 1] 3,.blk b5 kY.toArray 278,.blk b6 #[.iface 182 (.agg #[.pointer (some ⟨b5,0,none⟩)]),.int .i64 1] 186]) (ak hb rfl) (ak hb rfl) (dR hb) (dR hb) (MJ H1) ?_).mono ?_)
 ·rintro w' ⟨b5,b6,K⟩
  have hk:=K.Gt 0 rfl
  exact⟨ak hk rfl,ak hk rfl,dR hk,dR hk⟩
 ·rintro _ w' ⟨rfl,w1,⟨b5,b6,K⟩,rfl⟩
  have K1:=K.drew
  have K2:=K1.store 0 rfl 5 (.int .u32 1)
  exact⟨_,rfl,h b5 b6 _ (K2.store 0 rfl 6 (.int .i32 0))⟩
theorem tR{w0:World}{b_:Nat}{c0_ c1_ c2_ c3_ c4_ c10_ c11_ c12_ c13_ c14_ c15_ c16_ c17_ c18_ c19_ c20_ c21_ c22_ c23_ c24_ c25_ c26_ c27_ c28_ c29_ c30_ c31_ c32_ c33_ c34_ c35_:Value}(h:(Rs.blk b_ #[c0_,c1_,c2_,c3_,c4_,.int .u32 0,.int .i32 0,.int .u32 0,.int .i32 0,.pointer none,c10_,c11_,c12_,c13_,c14_,c15_,c16_,c17_,c18_,c19_,c20_,c21_,c22_,c23_,c24_,c25_,c26_,c27_,c28_,c29_,c30_,c31_,c32_,c33_,c34_,c35_] 121).inv w0):
 Calls Tryz.prog 104 #[.pointer (some ⟨b_,5,none⟩),.int .i64 1] w0 fun e w'=>∃b3,∃b4,e= .returned (.pointer (some ⟨b4,0,none⟩))∧St (Rs.blk b_ #[] 121).fp w0 w' [.blk b_ #[c0_,c1_,c2_,c3_,c4_,.int .u32 1,.int .i32 0,.int .u32 0,.int .i32 1,.pointer (some ⟨b4,0,none⟩),c10_,c11_,c12_,c13_,c14_,c15_,c16_,c17_,c18_,c19_,c20_,c21_,c22_,c23_,c24_,c25_,c26_,c27_,c28_,c29_,c30_,c31_,c32_,c33_,c34_,c35_] 121,.blk b3 kY.toArray 278,.blk b4 #[.iface 182 (.agg #[.pointer (some ⟨b3,0,none⟩)]),.int .i64 1] 186]:=by
 have H:St (Rs.blk b_ #[] 121).fp w0 w0 [.blk b_ #[c0_,c1_,c2_,c3_,c4_,.int .u32 0,.int .i32 0,.int .u32 0,.int .i32 0,.pointer none,c10_,c11_,c12_,c13_,c14_,c15_,c16_,c17_,c18_,c19_,c20_,c21_,c22_,c23_,c24_,c25_,c26_,c27_,c28_,c29_,c30_,c31_,c32_,c33_,c34_,c35_] 121]:=St.start h
 refine aP (N:=14) (args:=[.pointer (some ⟨b_,5,none⟩),.int .i64 1]) Tryz.func104 rfl rfl (by simp) ?_
 refine rg (e_ rfl (bc (cs:=#[.pointer (some ⟨b_,5,none⟩)]) H rfl (fun b1 w H=>e_ rfl (bc (cs:=#[.int .i64 1]) H rfl (fun b2 w H=>v_ rfl (sg (.pointer none) rfl) (nl (rg (v_ rfl (av fP rfl (ak (H.Gt 1 rfl) rfl)) (v_ rfl (bw rfl) (v_ rfl (az qb rfl) (v_ rfl (dt [.pointer (some ⟨b2,0,none⟩),.pointer (some ⟨b1,0,none⟩)] rfl) (e_ rfl (Q3 H pZ rfl (fun b3 b4 w H=>nl (rg (v_ rfl (av fP rfl (ak (H.Gt 1 rfl) rfl)) (v_ rfl (bw rfl) (v_ rfl (az lL rfl) (v_ rfl (av qc rfl (ak (H.Gt 0 rfl) rfl)) (v_ rfl (sg (.pointer (some ⟨b4,0,none⟩)) rfl) (nl (aj ?_))))))))))))))))))))))
 exact⟨.inl rfl,_,tk0 rfl ⟨aB rfl (ad ai),_,_,rfl,H.ag [0,3,4] rfl rfl⟩⟩
theorem tS{w0:World}{b_ p_:Nat}{c0_ c1_ c2_ c3_ c4_ c10_ c11_ c12_ c13_ c14_ c15_ c16_ c17_ c18_ c19_ c20_ c21_ c22_ c23_ c24_ c25_ c26_ c27_ c28_ c29_ c30_ c31_ c32_ c33_ c34_ c35_:Value}(h:(Rs.blk b_ #[c0_,c1_,c2_,c3_,c4_,.int .u32 1,.int .i32 0,.int .u32 0,.int .i32 1,(.pointer (some ⟨p_,0,none⟩)),c10_,c11_,c12_,c13_,c14_,c15_,c16_,c17_,c18_,c19_,c20_,c21_,c22_,c23_,c24_,c25_,c26_,c27_,c28_,c29_,c30_,c31_,c32_,c33_,c34_,c35_] 121).inv w0):
 Calls Tryz.prog 104 #[.pointer (some ⟨b_,5,none⟩),.int .i64 1] w0 fun e w'=>e= .returned (.pointer (some ⟨p_,0,none⟩))∧St (Rs.blk b_ #[] 121).fp w0 w' [.blk b_ #[c0_,c1_,c2_,c3_,c4_,.int .u32 1,.int .i32 0,.int .u32 0,.int .i32 1,(.pointer (some ⟨p_,0,none⟩)),c10_,c11_,c12_,c13_,c14_,c15_,c16_,c17_,c18_,c19_,c20_,c21_,c22_,c23_,c24_,c25_,c26_,c27_,c28_,c29_,c30_,c31_,c32_,c33_,c34_,c35_] 121]:=by
 have H:St (Rs.blk b_ #[] 121).fp w0 w0 [.blk b_ #[c0_,c1_,c2_,c3_,c4_,.int .u32 1,.int .i32 0,.int .u32 0,.int .i32 1,(.pointer (some ⟨p_,0,none⟩)),c10_,c11_,c12_,c13_,c14_,c15_,c16_,c17_,c18_,c19_,c20_,c21_,c22_,c23_,c24_,c25_,c26_,c27_,c28_,c29_,c30_,c31_,c32_,c33_,c34_,c35_] 121]:=St.start h
 refine aP (N:=14) (args:=[.pointer (some ⟨b_,5,none⟩),.int .i64 1]) Tryz.func104 rfl rfl (by simp) ?_
 refine rg (e_ rfl (bc (cs:=#[.pointer (some ⟨b_,5,none⟩)]) H rfl (fun b1 w H=>e_ rfl (bc (cs:=#[.int .i64 1]) H rfl (fun b2 w H=>v_ rfl (sg (.pointer none) rfl) (nl (rg (v_ rfl (av fP rfl (ak (H.Gt 1 rfl) rfl)) (v_ rfl (bw rfl) (v_ rfl (az qb rfl) (v_ rfl (dt [.pointer (some ⟨b2,0,none⟩),.pointer (some ⟨b1,0,none⟩)] rfl) (e_ rfl (xX (o:=5) H 0 rfl rfl pZ rfl (fun w H=>nl (rg (v_ rfl (av fP rfl (ak (H.Gt 1 rfl) rfl)) (v_ rfl (bw rfl) (v_ rfl (az lL rfl) (v_ rfl (av qc rfl (ak (H.Gt 0 rfl) rfl)) (v_ rfl (sg (.pointer (some ⟨p_,0,none⟩)) rfl) (nl (aj ?_))))))))))))))))))))))
 exact⟨.inl rfl,_,tk0 rfl ⟨aB rfl (ad ai),rfl,H.ag [0] rfl rfl⟩⟩
theorem MK{w0 w:World}{X:Nat→Prop}{b_ fa_ fb_:Nat}{c0_ c1_ c2_ c3_ c4_ c5_ c6_ c7_ c8_ c9_ c15_ c16_ c17_ c18_ c19_ c20_ c21_ c22_ c23_ c24_ c25_ c26_ c27_ c28_ c29_ c30_ c31_ c32_ c33_ c34_ c35_:Value}(H:St X w0 w [.blk b_ #[c0_,c1_,c2_,c3_,c4_,c5_,c6_,c7_,c8_,c9_,.int .u32 0,.int .i32 1,.int .u32 0,.int .i32 0,.pointer none,c15_,c16_,c17_,c18_,c19_,c20_,c21_,c22_,c23_,c24_,c25_,c26_,c27_,c28_,c29_,c30_,c31_,c32_,c33_,c34_,c35_] 121,.blk fb_ #[.pointer (some ⟨b_,10,none⟩)] 252,.blk fa_ #[.int .i64 2] 3]):
 Calls Tryz.prog 163 #[.pointer (some ⟨fa_,0,none⟩),.pointer (some ⟨fb_,0,none⟩)] w fun e w'=>e= .returned (.tuple #[])∧∃b2,St X w0 w' [.blk b_ #[c0_,c1_,c2_,c3_,c4_,c5_,c6_,c7_,c8_,c9_,.int .u32 0,.int .i32 1,.int .u32 0,.int .i32 1,.pointer (some ⟨b2,0,none⟩),c15_,c16_,c17_,c18_,c19_,c20_,c21_,c22_,c23_,c24_,c25_,c26_,c27_,c28_,c29_,c30_,c31_,c32_,c33_,c34_,c35_] 121,.blk fb_ #[.pointer (some ⟨b_,10,none⟩)] 252,.blk fa_ #[.int .i64 2] 3,.blk b2 #[.iface 187 (.agg #[]),.int .i64 2] 186]:=by
 refine aP (N:=11) (args:=[.pointer (some ⟨fa_,0,none⟩),.pointer (some ⟨fb_,0,none⟩)]) Tryz.func163 rfl rfl (by simp) ?_
 refine ae (cd (ds:=[5]) wQ H rfl rfl ?_)
 have H:=H.drew
 refine kI (i:=0) (l':=#[true,false,false,false,false,false]) rfl rfl rfl (by kernel_rfl) H (fun w H=>av fP rfl (ak (H.Gt 1 rfl) rfl)) (kI (i:=1) (l':=#[true,true,false,false,false,false]) rfl rfl rfl (by kernel_rfl) H (fun w H=>av wR rfl (ak (H.Gt 2 rfl) rfl)) (nj (i:=2) (l':=#[true,true,true,false,false,false]) rfl rfl rfl (by kernel_rfl) (cm 26 [.int .i64 2] wO Tryz.func77 rfl rfl rfl rfl (rg (v_ rfl (sg (.pointer none) rfl) (nl (ae (rg (v_ rfl (mv (.int .i64 2) rfl) (nl (aG (rg (v_ rfl (bJ (v':= .bool false) (cg rfl rfl) rfl) (v_ rfl (sg (.bool false) rfl) (nl (bS rfl (rg (v_ rfl (bJ (v':= .bool true) (cg rfl rfl) rfl) (v_ rfl (sg (.bool true) rfl) (nl (cl rfl (rg (v_ rfl (cf (cs:=[]) MG rfl) (v_ rfl (uk Tryz.underlying187 rfl) (v_ rfl (mv (.int .i64 2) rfl) (v_ rfl (cf (cs:=[.iface 187 (.agg #[]),.int .i64 2]) wL rfl) (e_ rfl (bc (cs:=#[.iface 187 (.agg #[]),.int .i64 2]) H rfl (fun b2 w H=>v_ rfl (sg (.pointer (some ⟨b2,0,none⟩)) rfl) (nl (aj (bG (aL ⟨.inl rfl,.pointer (some ⟨b2,0,none⟩),tk0 rfl ⟨ba rfl (ad ai) rfl,(⟨fun _=>H.ag [0,1,2] rfl rfl,sd (i:=3) (l':=#[true,true,true,true,false,false]) rfl rfl rfl (by kernel_rfl) (H.ag [0,1,2] rfl rfl) (bw rfl) (kI (i:=4) (l':=#[true,true,true,true,true,false]) rfl rfl rfl (by kernel_rfl) (H.ag [0,1,2] rfl rfl) (fun w H=>az lL rfl) (nj (i:=5) (l':=#[true,true,true,true,true,true]) rfl rfl rfl (by kernel_rfl) (cQ wS H 0 rfl rfl rfl rfl rfl (fun w H=>⟨fun h=>(h (by decide)).elim,uF (by kernel_rfl) (ab (aH (v_ rfl (av fP rfl (ak (H.Gt 1 rfl) rfl)) (v_ rfl (bw rfl) (v_ rfl (az wP rfl) ?_)))))⟩))))⟩)⟩⟩)))))))))))))))))))))))))))))))))
 refine e_ rfl (xU H 0 rfl rfl wN rfl rfl (fun w H=>(aK ?_)))
 exact⟨.inr rfl,_,tk0 rfl ⟨aB rfl ai,rfl,_,H⟩⟩
theorem Q4{ρ:Option Nat}{N:Nat}{t:Fr}{w0 w:World}{X:Nat→Prop}{R:Value→World→Prop}{d:Option Nat}{ty:TypeId}{ps:String}{af:Array Edge}{g:Option (Nat×Bool)}{xs:Array Operand}{ats:Array TypeId}{b_ fa_ fb_:Nat}{c0_ c1_ c2_ c3_ c4_ c5_ c6_ c7_ c8_ c9_ c15_ c16_ c17_ c18_ c19_ c20_ c21_ c22_ c23_ c24_ c25_ c26_ c27_ c28_ c29_ c30_ c31_ c32_ c33_ c34_ c35_:Value}(H:St X w0 w [.blk b_ #[c0_,c1_,c2_,c3_,c4_,c5_,c6_,c7_,c8_,c9_,.int .u32 0,.int .i32 0,.int .u32 0,.int .i32 0,.pointer none,c15_,c16_,c17_,c18_,c19_,c20_,c21_,c22_,c23_,c24_,c25_,c26_,c27_,c28_,c29_,c30_,c31_,c32_,c33_,c34_,c35_] 121,.blk fb_ #[.pointer (some ⟨b_,10,none⟩)] 252,.blk fa_ #[.int .i64 2] 3])(hf:En Tryz.prog 162)(hv:xs.toList.map (ev t)=[.pointer (some ⟨b_,10,none⟩),.func (.func 163) #[] #[.pointer (some ⟨fa_,0,none⟩),.pointer (some ⟨fb_,0,none⟩)]])(h:∀b2 w',St X w0 w' [.blk b_ #[c0_,c1_,c2_,c3_,c4_,c5_,c6_,c7_,c8_,c9_,.int .u32 1,.int .i32 0,.int .u32 0,.int .i32 1,.pointer (some ⟨b2,0,none⟩),c15_,c16_,c17_,c18_,c19_,c20_,c21_,c22_,c23_,c24_,c25_,c26_,c27_,c28_,c29_,c30_,c31_,c32_,c33_,c34_,c35_] 121,.blk fb_ #[.pointer (some ⟨b_,10,none⟩)] 252,.blk fa_ #[.int .i64 2] 3,.blk b2 #[.iface 187 (.agg #[]),.int .i64 2] 186]→R (.tuple #[]) w'):Yd Tryz.prog ρ N ⟨d,.call ⟨.value (.func 162),xs,ats⟩,ty,ps,af,g⟩ t w R:=by
 have hb:=H.Gt 0 rfl
 have H1:St X w0 (w.setCell ⟨b_,11,none⟩ (.int .i32 1)) [.blk b_ #[c0_,c1_,c2_,c3_,c4_,c5_,c6_,c7_,c8_,c9_,.int .u32 0,.int .i32 1,.int .u32 0,.int .i32 0,.pointer none,c15_,c16_,c17_,c18_,c19_,c20_,c21_,c22_,c23_,c24_,c25_,c26_,c27_,c28_,c29_,c30_,c31_,c32_,c33_,c34_,c35_] 121,.blk fb_ #[.pointer (some ⟨b_,10,none⟩)] 252,.blk fa_ #[.int .i64 2] 3]:=H.store 0 rfl 11 (.int .i32 1)
 refine au hf hv ((wV b_ 10 (.pointer (some ⟨fa_,0,none⟩)) (.pointer (some ⟨fb_,0,none⟩)) w (fun w'=>∃b2,St X w0 w' [.blk b_ #[c0_,c1_,c2_,c3_,c4_,c5_,c6_,c7_,c8_,c9_,.int .u32 0,.int .i32 1,.int .u32 0,.int .i32 1,.pointer (some ⟨b2,0,none⟩),c15_,c16_,c17_,c18_,c19_,c20_,c21_,c22_,c23_,c24_,c25_,c26_,c27_,c28_,c29_,c30_,c31_,c32_,c33_,c34_,c35_] 121,.blk fb_ #[.pointer (some ⟨b_,10,none⟩)] 252,.blk fa_ #[.int .i64 2] 3,.blk b2 #[.iface 187 (.agg #[]),.int .i64 2] 186]) (ak hb rfl) (ak hb rfl) (dR hb) (dR hb) (MK H1) ?_).mono ?_)
 ·rintro w' ⟨b2,K⟩
  have hk:=K.Gt 0 rfl
  exact⟨ak hk rfl,ak hk rfl,dR hk,dR hk⟩
 ·rintro _ w' ⟨rfl,w1,⟨b2,K⟩,rfl⟩
  have K1:=K.drew
  have K2:=K1.store 0 rfl 10 (.int .u32 1)
  exact⟨_,rfl,h b2 _ (K2.store 0 rfl 11 (.int .i32 0))⟩
theorem tT{w0:World}{b_:Nat}{c0_ c1_ c2_ c3_ c4_ c5_ c6_ c7_ c8_ c9_ c15_ c16_ c17_ c18_ c19_ c20_ c21_ c22_ c23_ c24_ c25_ c26_ c27_ c28_ c29_ c30_ c31_ c32_ c33_ c34_ c35_:Value}(h:(Rs.blk b_ #[c0_,c1_,c2_,c3_,c4_,c5_,c6_,c7_,c8_,c9_,.int .u32 0,.int .i32 0,.int .u32 0,.int .i32 0,.pointer none,c15_,c16_,c17_,c18_,c19_,c20_,c21_,c22_,c23_,c24_,c25_,c26_,c27_,c28_,c29_,c30_,c31_,c32_,c33_,c34_,c35_] 121).inv w0):
 Calls Tryz.prog 104 #[.pointer (some ⟨b_,10,none⟩),.int .i64 2] w0 fun e w'=>∃b3,e= .returned (.pointer (some ⟨b3,0,none⟩))∧St (Rs.blk b_ #[] 121).fp w0 w' [.blk b_ #[c0_,c1_,c2_,c3_,c4_,c5_,c6_,c7_,c8_,c9_,.int .u32 1,.int .i32 0,.int .u32 0,.int .i32 1,.pointer (some ⟨b3,0,none⟩),c15_,c16_,c17_,c18_,c19_,c20_,c21_,c22_,c23_,c24_,c25_,c26_,c27_,c28_,c29_,c30_,c31_,c32_,c33_,c34_,c35_] 121,.blk b3 #[.iface 187 (.agg #[]),.int .i64 2] 186]:=by
 have H:St (Rs.blk b_ #[] 121).fp w0 w0 [.blk b_ #[c0_,c1_,c2_,c3_,c4_,c5_,c6_,c7_,c8_,c9_,.int .u32 0,.int .i32 0,.int .u32 0,.int .i32 0,.pointer none,c15_,c16_,c17_,c18_,c19_,c20_,c21_,c22_,c23_,c24_,c25_,c26_,c27_,c28_,c29_,c30_,c31_,c32_,c33_,c34_,c35_] 121]:=St.start h
 refine aP (N:=14) (args:=[.pointer (some ⟨b_,10,none⟩),.int .i64 2]) Tryz.func104 rfl rfl (by simp) ?_
 refine rg (e_ rfl (bc (cs:=#[.pointer (some ⟨b_,10,none⟩)]) H rfl (fun b1 w H=>e_ rfl (bc (cs:=#[.int .i64 2]) H rfl (fun b2 w H=>v_ rfl (sg (.pointer none) rfl) (nl (rg (v_ rfl (av fP rfl (ak (H.Gt 1 rfl) rfl)) (v_ rfl (bw rfl) (v_ rfl (az qb rfl) (v_ rfl (dt [.pointer (some ⟨b2,0,none⟩),.pointer (some ⟨b1,0,none⟩)] rfl) (e_ rfl (Q4 H pZ rfl (fun b3 w H=>nl (rg (v_ rfl (av fP rfl (ak (H.Gt 1 rfl) rfl)) (v_ rfl (bw rfl) (v_ rfl (az lL rfl) (v_ rfl (av qc rfl (ak (H.Gt 0 rfl) rfl)) (v_ rfl (sg (.pointer (some ⟨b3,0,none⟩)) rfl) (nl (aj ?_))))))))))))))))))))))
 exact⟨.inl rfl,_,tk0 rfl ⟨aB rfl (ad ai),_,rfl,H.ag [0,3] rfl rfl⟩⟩
theorem tU{w0:World}{b_ p_:Nat}{c0_ c1_ c2_ c3_ c4_ c5_ c6_ c7_ c8_ c9_ c15_ c16_ c17_ c18_ c19_ c20_ c21_ c22_ c23_ c24_ c25_ c26_ c27_ c28_ c29_ c30_ c31_ c32_ c33_ c34_ c35_:Value}(h:(Rs.blk b_ #[c0_,c1_,c2_,c3_,c4_,c5_,c6_,c7_,c8_,c9_,.int .u32 1,.int .i32 0,.int .u32 0,.int .i32 1,(.pointer (some ⟨p_,0,none⟩)),c15_,c16_,c17_,c18_,c19_,c20_,c21_,c22_,c23_,c24_,c25_,c26_,c27_,c28_,c29_,c30_,c31_,c32_,c33_,c34_,c35_] 121).inv w0):
 Calls Tryz.prog 104 #[.pointer (some ⟨b_,10,none⟩),.int .i64 2] w0 fun e w'=>e= .returned (.pointer (some ⟨p_,0,none⟩))∧St (Rs.blk b_ #[] 121).fp w0 w' [.blk b_ #[c0_,c1_,c2_,c3_,c4_,c5_,c6_,c7_,c8_,c9_,.int .u32 1,.int .i32 0,.int .u32 0,.int .i32 1,(.pointer (some ⟨p_,0,none⟩)),c15_,c16_,c17_,c18_,c19_,c20_,c21_,c22_,c23_,c24_,c25_,c26_,c27_,c28_,c29_,c30_,c31_,c32_,c33_,c34_,c35_] 121]:=by
 have H:St (Rs.blk b_ #[] 121).fp w0 w0 [.blk b_ #[c0_,c1_,c2_,c3_,c4_,c5_,c6_,c7_,c8_,c9_,.int .u32 1,.int .i32 0,.int .u32 0,.int .i32 1,(.pointer (some ⟨p_,0,none⟩)),c15_,c16_,c17_,c18_,c19_,c20_,c21_,c22_,c23_,c24_,c25_,c26_,c27_,c28_,c29_,c30_,c31_,c32_,c33_,c34_,c35_] 121]:=St.start h
 refine aP (N:=14) (args:=[.pointer (some ⟨b_,10,none⟩),.int .i64 2]) Tryz.func104 rfl rfl (by simp) ?_
 refine rg (e_ rfl (bc (cs:=#[.pointer (some ⟨b_,10,none⟩)]) H rfl (fun b1 w H=>e_ rfl (bc (cs:=#[.int .i64 2]) H rfl (fun b2 w H=>v_ rfl (sg (.pointer none) rfl) (nl (rg (v_ rfl (av fP rfl (ak (H.Gt 1 rfl) rfl)) (v_ rfl (bw rfl) (v_ rfl (az qb rfl) (v_ rfl (dt [.pointer (some ⟨b2,0,none⟩),.pointer (some ⟨b1,0,none⟩)] rfl) (e_ rfl (xX (o:=10) H 0 rfl rfl pZ rfl (fun w H=>nl (rg (v_ rfl (av fP rfl (ak (H.Gt 1 rfl) rfl)) (v_ rfl (bw rfl) (v_ rfl (az lL rfl) (v_ rfl (av qc rfl (ak (H.Gt 0 rfl) rfl)) (v_ rfl (sg (.pointer (some ⟨p_,0,none⟩)) rfl) (nl (aj ?_))))))))))))))))))))))
 exact⟨.inl rfl,_,tk0 rfl ⟨aB rfl (ad ai),rfl,H.ag [0] rfl rfl⟩⟩
theorem ML{w0 w:World}{X:Nat→Prop}{b_ fa_ fb_:Nat}{c0_ c1_ c2_ c3_ c4_ c5_ c6_ c7_ c8_ c9_ c10_ c11_ c12_ c13_ c14_ c20_ c21_ c22_ c23_ c24_ c25_ c26_ c27_ c28_ c29_ c30_ c31_ c32_ c33_ c34_ c35_:Value}(H:St X w0 w [.blk b_ #[c0_,c1_,c2_,c3_,c4_,c5_,c6_,c7_,c8_,c9_,c10_,c11_,c12_,c13_,c14_,.int .u32 0,.int .i32 1,.int .u32 0,.int .i32 0,.pointer none,c20_,c21_,c22_,c23_,c24_,c25_,c26_,c27_,c28_,c29_,c30_,c31_,c32_,c33_,c34_,c35_] 121,.blk fb_ #[.pointer (some ⟨b_,15,none⟩)] 252,.blk fa_ #[.int .i64 3] 3]):
 Calls Tryz.prog 163 #[.pointer (some ⟨fa_,0,none⟩),.pointer (some ⟨fb_,0,none⟩)] w fun e w'=>e= .returned (.tuple #[])∧∃b2,St X w0 w' [.blk b_ #[c0_,c1_,c2_,c3_,c4_,c5_,c6_,c7_,c8_,c9_,c10_,c11_,c12_,c13_,c14_,.int .u32 0,.int .i32 1,.int .u32 0,.int .i32 1,.pointer (some ⟨b2,0,none⟩),c20_,c21_,c22_,c23_,c24_,c25_,c26_,c27_,c28_,c29_,c30_,c31_,c32_,c33_,c34_,c35_] 121,.blk fb_ #[.pointer (some ⟨b_,15,none⟩)] 252,.blk fa_ #[.int .i64 3] 3,.blk b2 #[.iface 188 (.agg #[]),.int .i64 3] 186]:=by
 refine aP (N:=11) (args:=[.pointer (some ⟨fa_,0,none⟩),.pointer (some ⟨fb_,0,none⟩)]) Tryz.func163 rfl rfl (by simp) ?_
 refine ae (cd (ds:=[5]) wQ H rfl rfl ?_)
 have H:=H.drew
 refine kI (i:=0) (l':=#[true,false,false,false,false,false]) rfl rfl rfl (by kernel_rfl) H (fun w H=>av fP rfl (ak (H.Gt 1 rfl) rfl)) (kI (i:=1) (l':=#[true,true,false,false,false,false]) rfl rfl rfl (by kernel_rfl) H (fun w H=>av wR rfl (ak (H.Gt 2 rfl) rfl)) (nj (i:=2) (l':=#[true,true,true,false,false,false]) rfl rfl rfl (by kernel_rfl) (cm 26 [.int .i64 3] wO Tryz.func77 rfl rfl rfl rfl (rg (v_ rfl (sg (.pointer none) rfl) (nl (ae (rg (v_ rfl (mv (.int .i64 3) rfl) (nl (aG (rg (v_ rfl (bJ (v':= .bool false) (cg rfl rfl) rfl) (v_ rfl (sg (.bool false) rfl) (nl (bS rfl (rg (v_ rfl (bJ (v':= .bool false) (cg rfl rfl) rfl) (v_ rfl (sg (.bool false) rfl) (nl (bS rfl (rg (v_ rfl (bJ (v':= .bool true) (cg rfl rfl) rfl) (v_ rfl (sg (.bool true) rfl) (nl (cl rfl (rg (v_ rfl (cf (cs:=[]) MH rfl) (v_ rfl (uk Tryz.underlying188 rfl) (v_ rfl (mv (.int .i64 3) rfl) (v_ rfl (cf (cs:=[.iface 188 (.agg #[]),.int .i64 3]) wL rfl) (e_ rfl (bc (cs:=#[.iface 188 (.agg #[]),.int .i64 3]) H rfl (fun b2 w H=>v_ rfl (sg (.pointer (some ⟨b2,0,none⟩)) rfl) (nl (aj (bG (aL ⟨.inl rfl,.pointer (some ⟨b2,0,none⟩),tk0 rfl ⟨ba rfl (ad ai) rfl,(⟨fun _=>H.ag [0,1,2] rfl rfl,sd (i:=3) (l':=#[true,true,true,true,false,false]) rfl rfl rfl (by kernel_rfl) (H.ag [0,1,2] rfl rfl) (bw rfl) (kI (i:=4) (l':=#[true,true,true,true,true,false]) rfl rfl rfl (by kernel_rfl) (H.ag [0,1,2] rfl rfl) (fun w H=>az lL rfl) (nj (i:=5) (l':=#[true,true,true,true,true,true]) rfl rfl rfl (by kernel_rfl) (cQ wS H 0 rfl rfl rfl rfl rfl (fun w H=>⟨fun h=>(h (by decide)).elim,(uF (by kernel_rfl) ?_)⟩))))⟩)⟩⟩))))))))))))))))))))))))))))))))))))))
 refine ab (aH (v_ rfl (av fP rfl (ak (H.Gt 1 rfl) rfl)) (v_ rfl (bw rfl) (v_ rfl (az wP rfl) (e_ rfl (xU H 0 rfl rfl wN rfl rfl (fun w H=>(aK ?_))))))))
 exact⟨.inr rfl,_,tk0 rfl ⟨aB rfl ai,rfl,_,H⟩⟩
theorem Q5{ρ:Option Nat}{N:Nat}{t:Fr}{w0 w:World}{X:Nat→Prop}{R:Value→World→Prop}{d:Option Nat}{ty:TypeId}{ps:String}{af:Array Edge}{g:Option (Nat×Bool)}{xs:Array Operand}{ats:Array TypeId}{b_ fa_ fb_:Nat}{c0_ c1_ c2_ c3_ c4_ c5_ c6_ c7_ c8_ c9_ c10_ c11_ c12_ c13_ c14_ c20_ c21_ c22_ c23_ c24_ c25_ c26_ c27_ c28_ c29_ c30_ c31_ c32_ c33_ c34_ c35_:Value}(H:St X w0 w [.blk b_ #[c0_,c1_,c2_,c3_,c4_,c5_,c6_,c7_,c8_,c9_,c10_,c11_,c12_,c13_,c14_,.int .u32 0,.int .i32 0,.int .u32 0,.int .i32 0,.pointer none,c20_,c21_,c22_,c23_,c24_,c25_,c26_,c27_,c28_,c29_,c30_,c31_,c32_,c33_,c34_,c35_] 121,.blk fb_ #[.pointer (some ⟨b_,15,none⟩)] 252,.blk fa_ #[.int .i64 3] 3])(hf:En Tryz.prog 162)(hv:xs.toList.map (ev t)=[.pointer (some ⟨b_,15,none⟩),.func (.func 163) #[] #[.pointer (some ⟨fa_,0,none⟩),.pointer (some ⟨fb_,0,none⟩)]])(h:∀b2 w',St X w0 w' [.blk b_ #[c0_,c1_,c2_,c3_,c4_,c5_,c6_,c7_,c8_,c9_,c10_,c11_,c12_,c13_,c14_,.int .u32 1,.int .i32 0,.int .u32 0,.int .i32 1,.pointer (some ⟨b2,0,none⟩),c20_,c21_,c22_,c23_,c24_,c25_,c26_,c27_,c28_,c29_,c30_,c31_,c32_,c33_,c34_,c35_] 121,.blk fb_ #[.pointer (some ⟨b_,15,none⟩)] 252,.blk fa_ #[.int .i64 3] 3,.blk b2 #[.iface 188 (.agg #[]),.int .i64 3] 186]→R (.tuple #[]) w'):Yd Tryz.prog ρ N ⟨d,.call ⟨.value (.func 162),xs,ats⟩,ty,ps,af,g⟩ t w R:=by
 have hb:=H.Gt 0 rfl
 have H1:St X w0 (w.setCell ⟨b_,16,none⟩ (.int .i32 1)) [.blk b_ #[c0_,c1_,c2_,c3_,c4_,c5_,c6_,c7_,c8_,c9_,c10_,c11_,c12_,c13_,c14_,.int .u32 0,.int .i32 1,.int .u32 0,.int .i32 0,.pointer none,c20_,c21_,c22_,c23_,c24_,c25_,c26_,c27_,c28_,c29_,c30_,c31_,c32_,c33_,c34_,c35_] 121,.blk fb_ #[.pointer (some ⟨b_,15,none⟩)] 252,.blk fa_ #[.int .i64 3] 3]:=H.store 0 rfl 16 (.int .i32 1)
 refine au hf hv ((wV b_ 15 (.pointer (some ⟨fa_,0,none⟩)) (.pointer (some ⟨fb_,0,none⟩)) w (fun w'=>∃b2,St X w0 w' [.blk b_ #[c0_,c1_,c2_,c3_,c4_,c5_,c6_,c7_,c8_,c9_,c10_,c11_,c12_,c13_,c14_,.int .u32 0,.int .i32 1,.int .u32 0,.int .i32 1,.pointer (some ⟨b2,0,none⟩),c20_,c21_,c22_,c23_,c24_,c25_,c26_,c27_,c28_,c29_,c30_,c31_,c32_,c33_,c34_,c35_] 121,.blk fb_ #[.pointer (some ⟨b_,15,none⟩)] 252,.blk fa_ #[.int .i64 3] 3,.blk b2 #[.iface 188 (.agg #[]),.int .i64 3] 186]) (ak hb rfl) (ak hb rfl) (dR hb) (dR hb) (ML H1) ?_).mono ?_)
 ·rintro w' ⟨b2,K⟩
  have hk:=K.Gt 0 rfl
  exact⟨ak hk rfl,ak hk rfl,dR hk,dR hk⟩
 ·rintro _ w' ⟨rfl,w1,⟨b2,K⟩,rfl⟩
  have K1:=K.drew
  have K2:=K1.store 0 rfl 15 (.int .u32 1)
  exact⟨_,rfl,h b2 _ (K2.store 0 rfl 16 (.int .i32 0))⟩
theorem tV{w0:World}{b_:Nat}{c0_ c1_ c2_ c3_ c4_ c5_ c6_ c7_ c8_ c9_ c10_ c11_ c12_ c13_ c14_ c20_ c21_ c22_ c23_ c24_ c25_ c26_ c27_ c28_ c29_ c30_ c31_ c32_ c33_ c34_ c35_:Value}(h:(Rs.blk b_ #[c0_,c1_,c2_,c3_,c4_,c5_,c6_,c7_,c8_,c9_,c10_,c11_,c12_,c13_,c14_,.int .u32 0,.int .i32 0,.int .u32 0,.int .i32 0,.pointer none,c20_,c21_,c22_,c23_,c24_,c25_,c26_,c27_,c28_,c29_,c30_,c31_,c32_,c33_,c34_,c35_] 121).inv w0):
 Calls Tryz.prog 104 #[.pointer (some ⟨b_,15,none⟩),.int .i64 3] w0 fun e w'=>∃b3,e= .returned (.pointer (some ⟨b3,0,none⟩))∧St (Rs.blk b_ #[] 121).fp w0 w' [.blk b_ #[c0_,c1_,c2_,c3_,c4_,c5_,c6_,c7_,c8_,c9_,c10_,c11_,c12_,c13_,c14_,.int .u32 1,.int .i32 0,.int .u32 0,.int .i32 1,.pointer (some ⟨b3,0,none⟩),c20_,c21_,c22_,c23_,c24_,c25_,c26_,c27_,c28_,c29_,c30_,c31_,c32_,c33_,c34_,c35_] 121,.blk b3 #[.iface 188 (.agg #[]),.int .i64 3] 186]:=by
 have H:St (Rs.blk b_ #[] 121).fp w0 w0 [.blk b_ #[c0_,c1_,c2_,c3_,c4_,c5_,c6_,c7_,c8_,c9_,c10_,c11_,c12_,c13_,c14_,.int .u32 0,.int .i32 0,.int .u32 0,.int .i32 0,.pointer none,c20_,c21_,c22_,c23_,c24_,c25_,c26_,c27_,c28_,c29_,c30_,c31_,c32_,c33_,c34_,c35_] 121]:=St.start h
 refine aP (N:=14) (args:=[.pointer (some ⟨b_,15,none⟩),.int .i64 3]) Tryz.func104 rfl rfl (by simp) ?_
 refine rg (e_ rfl (bc (cs:=#[.pointer (some ⟨b_,15,none⟩)]) H rfl (fun b1 w H=>e_ rfl (bc (cs:=#[.int .i64 3]) H rfl (fun b2 w H=>v_ rfl (sg (.pointer none) rfl) (nl (rg (v_ rfl (av fP rfl (ak (H.Gt 1 rfl) rfl)) (v_ rfl (bw rfl) (v_ rfl (az qb rfl) (v_ rfl (dt [.pointer (some ⟨b2,0,none⟩),.pointer (some ⟨b1,0,none⟩)] rfl) (e_ rfl (Q5 H pZ rfl (fun b3 w H=>nl (rg (v_ rfl (av fP rfl (ak (H.Gt 1 rfl) rfl)) (v_ rfl (bw rfl) (v_ rfl (az lL rfl) (v_ rfl (av qc rfl (ak (H.Gt 0 rfl) rfl)) (v_ rfl (sg (.pointer (some ⟨b3,0,none⟩)) rfl) (nl (aj ?_))))))))))))))))))))))
 exact⟨.inl rfl,_,tk0 rfl ⟨aB rfl (ad ai),_,rfl,H.ag [0,3] rfl rfl⟩⟩
theorem tW{w0:World}{b_ p_:Nat}{c0_ c1_ c2_ c3_ c4_ c5_ c6_ c7_ c8_ c9_ c10_ c11_ c12_ c13_ c14_ c20_ c21_ c22_ c23_ c24_ c25_ c26_ c27_ c28_ c29_ c30_ c31_ c32_ c33_ c34_ c35_:Value}(h:(Rs.blk b_ #[c0_,c1_,c2_,c3_,c4_,c5_,c6_,c7_,c8_,c9_,c10_,c11_,c12_,c13_,c14_,.int .u32 1,.int .i32 0,.int .u32 0,.int .i32 1,(.pointer (some ⟨p_,0,none⟩)),c20_,c21_,c22_,c23_,c24_,c25_,c26_,c27_,c28_,c29_,c30_,c31_,c32_,c33_,c34_,c35_] 121).inv w0):
 Calls Tryz.prog 104 #[.pointer (some ⟨b_,15,none⟩),.int .i64 3] w0 fun e w'=>e= .returned (.pointer (some ⟨p_,0,none⟩))∧St (Rs.blk b_ #[] 121).fp w0 w' [.blk b_ #[c0_,c1_,c2_,c3_,c4_,c5_,c6_,c7_,c8_,c9_,c10_,c11_,c12_,c13_,c14_,.int .u32 1,.int .i32 0,.int .u32 0,.int .i32 1,(.pointer (some ⟨p_,0,none⟩)),c20_,c21_,c22_,c23_,c24_,c25_,c26_,c27_,c28_,c29_,c30_,c31_,c32_,c33_,c34_,c35_] 121]:=by
 have H:St (Rs.blk b_ #[] 121).fp w0 w0 [.blk b_ #[c0_,c1_,c2_,c3_,c4_,c5_,c6_,c7_,c8_,c9_,c10_,c11_,c12_,c13_,c14_,.int .u32 1,.int .i32 0,.int .u32 0,.int .i32 1,(.pointer (some ⟨p_,0,none⟩)),c20_,c21_,c22_,c23_,c24_,c25_,c26_,c27_,c28_,c29_,c30_,c31_,c32_,c33_,c34_,c35_] 121]:=St.start h
 refine aP (N:=14) (args:=[.pointer (some ⟨b_,15,none⟩),.int .i64 3]) Tryz.func104 rfl rfl (by simp) ?_
 refine rg (e_ rfl (bc (cs:=#[.pointer (some ⟨b_,15,none⟩)]) H rfl (fun b1 w H=>e_ rfl (bc (cs:=#[.int .i64 3]) H rfl (fun b2 w H=>v_ rfl (sg (.pointer none) rfl) (nl (rg (v_ rfl (av fP rfl (ak (H.Gt 1 rfl) rfl)) (v_ rfl (bw rfl) (v_ rfl (az qb rfl) (v_ rfl (dt [.pointer (some ⟨b2,0,none⟩),.pointer (some ⟨b1,0,none⟩)] rfl) (e_ rfl (xX (o:=15) H 0 rfl rfl pZ rfl (fun w H=>nl (rg (v_ rfl (av fP rfl (ak (H.Gt 1 rfl) rfl)) (v_ rfl (bw rfl) (v_ rfl (az lL rfl) (v_ rfl (av qc rfl (ak (H.Gt 0 rfl) rfl)) (v_ rfl (sg (.pointer (some ⟨p_,0,none⟩)) rfl) (nl (aj ?_))))))))))))))))))))))
 exact⟨.inl rfl,_,tk0 rfl ⟨aB rfl (ad ai),rfl,H.ag [0] rfl rfl⟩⟩
end Go.Proofs.YtmhkpafkadijgaaGreatDoor.Gw
