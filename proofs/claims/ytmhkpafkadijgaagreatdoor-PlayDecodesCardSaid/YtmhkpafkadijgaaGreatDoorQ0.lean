/- A part of the proof of Rows.PlayDecodesCardSaid; the conditions are that card's own. -/
import Derived.Test.YtmhkpafkadijgaaGreatDoorQH
import Derived.WalkKit
import Derived.WalkSpells
import Derived.WalkLawsBesides
import Derived.Lib.Hide
import Derived.KernelRfl
import Derived.Deep.MidRow
import Derived.OrdersHeld
import Derived.OrdersIn
import Derived.TacticsIn
import Derived.RangeFuncIn
import Derived.RangeFuncLeaves
import Derived.RangeFuncRecord
import Derived.Laws.MakeOwn
import Derived.Laws.OwnMore
set_option linter.all false
namespace Go.Proofs.YtmhkpafkadijgaaGreatDoor.Gw
open Go Go.RowKit
theorem aI(n:Nat):n≤n:=LY n
theorem bK{n m:Nat}(h:n+1≤m):n≤m:=Nat.le_of_succ_le h
theorem bL(n:Nat):n<n+1:=Nat.lt_succ_self n
theorem aJ{α β:Type}(a:α)(f:α→Option β):(some a).bind f=f a:=rfl
theorem bF{α:Type}{l:List α}{i:Nat}{a:α}:l.getD i a=(l[i]?).getD a:=NC
theorem bR(b:Bool):b=true∨b=false:=Bool.eq_false_or_eq_true b
theorem z{α:Sort _}{a:α}:a=a:=rfl
def tf(a n:Nat):Array Bool:=(List.replicate a true++List.replicate (n-a) false).toArray
abbrev pt(b:Nat):Value:= .pointer (some ⟨b,0,none⟩)
abbrev Fr:=Nat→Value
def upd(t:Fr)(d:Nat)(v:Value):Fr:=fun i=>bif Nat.beq i d then v else t i
def cP(t:Fr):Option Nat→Value→Fr
 |some d,v=>upd t d v
 |none,_=>t
def ev(t:Fr):Operand→Value
 | .tmp i=>bif Nat.beq i 1000000 then undef else t i
 | .const v=>v
 | .global g=> .pointer (some ⟨g,0,none⟩)
 | .func f=> .func (.func f) #[] #[]
def ok(N:Nat):Option Nat→Bool
 |some d=>Nat.blt d N
 |none=>true
def pW(D:Nat):Deferred:={target:= .collected D,args:=#[]}
def Bs:List Value→List Nat
 | .pointer (some a)::vs=>a.block::Bs vs
 |_=> []
def mL:Value→List Nat
 | .tuple vs=>Bs vs.toList
 |_=> []
def marks(v:Value):List Deferred:=(mL v).map pW
structure Fm (N:Nat) (t:Fr) (a:Act):Prop where
 small:N≤1000000
 defers:a.defers=marks (t 1000000)
 size:a.tmps.size=N
 get:∀i,Nat.beq i 1000000=false→a.tmps.getD i undef=t i
theorem Fm.eval{N:Nat}{t:Fr}{a:Act}(h:Fm N t a):a.eval=ev t:=by
 funext x
 cases x with
 |tmp i=>
  show a.tmps.getD i undef=bif Nat.beq i 1000000 then undef else t i
  cases hb:Nat.beq i 1000000
  ·exact h.get i hb
  have e:i=1000000:=eF hb
  have hn:¬i<a.tmps.size:=by
   intro hlt
   rw[e,h.size]at hlt
   exact absurd hlt (Nat.not_lt.2 h.small)
  simp[Array.getD,hn]
 |const v=>rfl
 |global g=>rfl
 |func f=>rfl
theorem Fm.put{N:Nat}{t:Fr}{a:Act}(h:Fm N t a){d:Option Nat}(hd:ok N d=true)(v:Value):Fm N (cP t d v) (a.put d v):=by
 cases d with
 |none=>exact h
 |some d=>
  have hd':d<N:=by simpa [ok,PR] using hd
  have hne:Nat.beq 1000000 d=false:=by
   rw[←Bool.not_eq_true,Nat.beq_eq];have:=h.small;omega
  refine⟨h.small,?_,by simp[Act.put,h.size],fun i hi0=>?_⟩
  ·show a.defers=marks (upd t d v 1000000)
   unfold upd;rw[hne];exact h.defers
  have hi:=h.get i hi0
  simp only[Act.put,cP,upd,LG]at hi⊢
  by_cases e:i=d
  ·subst e;simp[h.size,hd']
  have eb:Nat.beq i d=false:=by simpa [←Bool.not_eq_true,Nat.beq_eq] using e
  rw[eb,U_,←hi,Array.getElem?_setIfInBounds_ne (fun e'=>e e'.symm)]
def yd(ops:Array Oper)(t:Fr)(j:Nat):Option Bool:=
 match(ops[j]?).bind (·.dst)with
 |some d=>match ev t (.tmp d)with
  | .bool b=>some b
  |_=>none
 |none=>none
def Fw(ρ:Option Nat):Fence:={fn:=fun _=>True,depth:=none,alive:=false,round:=ρ}
theorem IV(ρ:Option Nat)(n:Nat):(Fw ρ).room n:=fun d h=>aad
section
variable{P:Program}{ρ:Option Nat}{N:Nat}{Q:Exit→Fr→World→Prop}{t:Fr}{w:World}
def NP(e:Exit):Prop:=∀c,e≠ .panic c
def Wc(P:Program)(ρ:Option Nat)(N:Nat)(Q:Exit→Fr→World→Prop)(c:Code)(t:Fr)(w:World):Prop:=
 ∀a,Fm N t a→c.wpIn (Fw ρ) 0 P (fun e a' w'=>∃t',Fm N t' a'∧NP e∧Q e t' w') a w
def lg(next:Fr→World→Prop)(Q:Exit→Fr→World→Prop):Exit→Fr→World→Prop
 | .normal,t,w=>next t w
 |e,t,w=>Q e t w
def Bk(id:Nat)(Q:Exit→Fr→World→Prop):Exit→Fr→World→Prop
 | .exit i,t,w=>if i=id then Q .normal t w else Q (.exit i) t w
 |e,t,w=>Q e t w
theorem ae{x y:Code}(h:Wc P ρ N (lg (fun t w=>Wc P ρ N Q y t w) Q) x t w):Wc P ρ N Q (.seq x y) t w:=by
 intro a ha
 refine wpIn_seq (Code.wpIn_mono ?_ (h a ha))
 rintro e a' w' ⟨t',h1,np,h2⟩
 cases e with
 |normal=>exact h2 a' h1
 |exit i=>exact⟨t',h1,np,h2⟩
 |goto i=>exact⟨t',h1,np,h2⟩
 |ret=>exact⟨t',h1,np,h2⟩
 |panic c=>exact⟨t',h1,np,h2⟩
 |outgrown=>exact⟨t',h1,np,h2⟩
theorem aA(h:Q .normal t w):Wc P ρ N Q .skip t w:=fun _ ha=>wpIn_skip ⟨t,ha,nofun,h⟩
theorem aj(h:Q .ret t w):Wc P ρ N Q .ret t w:=fun _ ha=>wpIn_ret ⟨t,ha,nofun,h⟩
theorem bt{i:Nat}(h:Q (.exit i) t w):Wc P ρ N Q (.exit i) t w:=fun _ ha=>wpIn_exit ⟨t,ha,nofun,h⟩
theorem aG{i:Nat}{c:Code}(h:Wc P ρ N (Bk i Q) c t w):Wc P ρ N Q (.block i c) t w:=by
 intro a ha
 refine wpIn_block (Code.wpIn_mono ?_ (h a ha))
 rintro e a' w' ⟨t',h1,np,h2⟩
 cases e with
 |exit j=>
  simp only[Bk]at h2;simp only[Exit.inBlock]
  by_cases e:j=i
  ·rw[M_ e]at h2⊢;exact⟨t',h1,nofun,h2⟩
  rw[I_ e]at h2⊢;exact⟨t',h1,np,h2⟩
 |normal=>exact⟨t',h1,np,h2⟩
 |goto i=>exact⟨t',h1,np,h2⟩
 |ret=>exact⟨t',h1,np,h2⟩
 |panic c=>exact⟨t',h1,np,h2⟩
 |outgrown=>exact⟨t',h1,np,h2⟩
theorem QA{x:Operand}{c d:Code}{b:Bool}(hx:ev t x= .bool b)(h1:b=true→Wc P ρ N Q c t w)(h2:b=false→Wc P ρ N Q d t w):Wc P ρ N Q (.cond x c d) t w:=
 fun a ha=>wpIn_cond_split P9 (fun e=>h1 e a ha) (fun e=>h2 e a ha)
theorem cl{x:Operand}{c d:Code}(hx:ev t x= .bool true)(h1:Wc P ρ N Q c t w):Wc P ρ N Q (.cond x c d) t w:=
 fun a ha=>wpIn_cond_true P9 (h1 a ha)
theorem bS{x:Operand}{c d:Code}(hx:ev t x= .bool false)(h1:Wc P ρ N Q d t w):Wc P ρ N Q (.cond x c d) t w:=
 fun a ha=>wpIn_cond_false P9 (h1 a ha)
theorem xQ{Q':Exit→Fr→World→Prop}{c:Code}(h:Wc P ρ N Q c t w)(hq:∀e t w,Q e t w→Q' e t w):Wc P ρ N Q' c t w:=
 fun a ha=>Code.wpIn_mono (fun _ _ _ ⟨t',h1,np,h2⟩=>⟨t',h1,np,hq _ _ _ h2⟩) (h a ha)
theorem bx{c:Code}(I:Nat→Fr→World→Prop)(k:Nat)(h0:I k t w)(round:∀k t w,I k t w→Wc P ρ N (lg (fun t' w'=>∃k',k'<k∧I k' t' w') Q) c t w):Wc P ρ N Q (.loop c) t w:=by
 intro a ha b kk cs hro hb hr
 have key:∀k t w,I k t w→∀a,Fm N t a→∃e a' w',(∃t',Fm N t' a'∧NP e∧Q e t' w')∧ArrivesIn (Machine.fenced P (Fw ρ)) P (lone (b.atR a (.code c:: .inLoop c::kk)) cs w) b kk cs e a' w':=by
  intro k
  induction k using Nat.strongRecOn with
  |_ k ih=>
   intro t w hI a ha
   obtain⟨e,a₁,w₁,⟨t₁,f₁,np,hq⟩,harr⟩:=round k t w hI a ha b (.inLoop c::kk) cs hro hb hr
   cases e with
   |normal=>
    obtain⟨k',hk,hI'⟩:=hq
    obtain⟨e₂,a₂,w₂,hq₂,harr₂⟩:=ih k' hk t₁ w₁ hI' a₁ f₁
    exact⟨e₂,a₂,w₂,hq₂,.of_steps (StepsIn.trans harr (.one (fenced_calm hb hr rfl) stepR_inLoop)) harr₂⟩
   |exit id=>exact⟨_,a₁,w₁,⟨t₁,f₁,np,hq⟩,.pass (x:= .inLoop c) rfl (fun _ _=> .inl j_) harr⟩
   |goto l=>exact⟨_,a₁,w₁,⟨t₁,f₁,np,hq⟩,.pass (x:= .inLoop c) rfl (fun _ _=> .inl j_) harr⟩
   |ret=>exact⟨_,a₁,w₁,⟨t₁,f₁,np,hq⟩,.pass (x:= .inLoop c) rfl (fun _ _=> .inl j_) harr⟩
   |panic ch=>exact⟨_,a₁,w₁,⟨t₁,f₁,np,hq⟩,.pass (x:= .inLoop c) rfl (fun _ _=> .inl j_) harr⟩
   |outgrown=>exact⟨_,a₁,w₁,⟨t₁,f₁,np,hq⟩,.pass (x:= .inLoop c) rfl (fun _ _=> .inl j_) harr⟩
 obtain⟨e,a',w',hq,harr⟩:=key k t w h0 a ha
 exact⟨e,a',w',hq,.of_steps (.one (fenced_calm hb hr rfl) stepR_loop) harr⟩
def Wl(P:Program)(ρ:Option Nat)(N:Nat)(ops:Array Oper)(Q:Exit→Fr→World→Prop)(l:List Oper)(t:Fr)(w:World):Prop:=
 ∀a,Fm N t a→wpListIn (Fw ρ) 0 P ops (fun e a' w'=>∃t',Fm N t' a'∧NP e∧Q e t' w') l a w
theorem aH{id:Nat}{l:List Oper}(h:Wl P ρ N l.toArray Q l t w):Wc P ρ N Q (.region id l.toArray false) t w:=
 fun a ha=>wpIn_region_lit (h a ha)
theorem aK{ops:Array Oper}(h:Q .normal t w):Wl P ρ N ops Q [] t w:=fun _ ha=>wpListIn_nil ⟨t,ha,nofun,h⟩
def Yd(P:Program)(ρ:Option Nat)(N:Nat)(o:Oper)(t:Fr)(w:World)(R:Value→World→Prop):Prop:=
 ∀a,Fm N t a→∀(K:Act→World→Prop)(Q:Exit→Act→World→Prop),(∀v w',R v w'→K (a.put o.dst v) w')→o.wpIn (Fw ρ) 0 P a w K Q
theorem Yd.mono{o:Oper}{R R':Value→World→Prop}(h:Yd P ρ N o t w R)(hr:∀v w',R v w'→R' v w'):Yd P ρ N o t w R':=
 fun a ha K Q hk=>h a ha K Q fun v w' r=>hk v w' (hr v w' r)
theorem xS{ops:Array Oper}{o:Oper}{rest:List Oper}(hg:o.guard=none)(hd:ok N o.dst=true)(h:Yd P ρ N o t w fun v w'=>Wl P ρ N ops Q rest (cP t o.dst v) w'):Wl P ρ N ops Q (o::rest) t w:=by
 intro a ha
 refine wpListIn_plain hg fun K hK=>?_
 exact h a ha K _ fun v w' r=>hK _ _ (r _ (ha.put hd v))
theorem sf{ops:Array Oper}{a:Act}(ha:Fm N t a){j:Nat}{b:Bool}(h:yd ops t j=some b):yielded ops a.tmps j=some b:=by
 unfold yd at h;unfold yielded
 cases hd:(ops[j]?).bind (·.dst)with
 |none=>rw[hd]at h;cases h
 |some d=>
  rw[hd]at h
  simp only[Option.bind_some]at h⊢
  have hg:a.tmps.getD d undef=ev t (.tmp d):=ZM
  rw[LG]at hg
  cases hq:a.tmps[d]? with
  |none=>rw[hq]at hg;simp only[Option.getD_none]at hg;rw[←hg]at h;simp[undef]at h
  |some v=>rw[hq]at hg;simp only[Ld]at hg;rw[hg];revert h;cases ev t (.tmp d)<;>simp
theorem dP{ops:Array Oper}{d:Option Nat}{op:Op}{ty:TypeId}{ps:String}{af:Array Edge}{j:Nat}{b c:Bool}{rest:List Oper}(hy':yd ops t j=some c)(hcb:c=b)(hd:ok N d=true)(h:Yd P ρ N ⟨d,op,ty,ps,af,some (j,b)⟩ t w fun v w'=>Wl P ρ N ops Q rest (cP t d v) w'):Wl P ρ N ops Q (⟨d,op,ty,ps,af,some (j,b)⟩::rest) t w:=by
 have hy:yd ops t j=some b:=hcb▸hy'
 intro a ha
 refine wpListIn_step fun K hK=>?_
 rw[M_ (by simp[Region.wanted,sf ha hy])]
 exact h a ha K _ fun v w' r=>hK _ _ (r _ (ha.put hd v))
theorem QD{ops:Array Oper}{d:Option Nat}{op:Op}{ty:TypeId}{ps:String}{af:Array Edge}{j:Nat}{b c c':Bool}{rest:List Oper}(hy':yd ops t j=some c')(hcc:c'=c)(hbc:(c==b)=false)(hd:ok N d=true)(h:Wl P ρ N ops Q rest (cP t d undef) w):Wl P ρ N ops Q (⟨d,op,ty,ps,af,some (j,b)⟩::rest) t w:=by
 have hy:yd ops t j=some c:=hcc▸hy'
 intro a ha
 refine wpListIn_step fun K hK=>?_
 rw[I_ (by simp[Region.wanted,sf ha hy];intro e;subst e;simp at hbc)]
 exact⟨fun _ _=>trivial,hK _ _ (h _ (ha.put hd undef))⟩
theorem rX{o:Oper}{f:Operand→Value}{x:Next}{w':World}(hr:(execOp f o).run P w= .ok x w')(hx:∀d,x≠ .defer d):(o.semAt ρ f).run P w= .ok x w':=by
 by_cases h:∃c,o.op= .defer c
 ·obtain⟨c,hc⟩:=h
  unfold execOp at hr
  rw[hc]at hr
  simp only[Sem.run_bind]at hr
  cases hrr:(resolve f c o.type).run P w with
  |ok d w1=>rw[hrr]at hr;simp only[Result.andThen,Sem.run_pure,Result.ok.injEq]at hr;exact absurd hr.1.symm (hx d)
  |halt e w1=>rw[hrr]at hr;cases hr
 rw[Oper.semAt_eq _ _ _ fun c hc=>h ⟨c,hc⟩];exact hr
theorem eD{o:Oper}{R:Value→World→Prop}{v:Value}{w':World}(hr:(execOp (ev t) o).run P w= .ok (.value v) w')(h:R v w'):Yd P ρ N o t w R:=by
 intro a ha K Q hk
 refine⟨fun _ _=>trivial,?_⟩
 have:=rX (ρ:=ρ) hr (fun d e=>ZB)
 show o.uponIn (Fw ρ) 0 P a K Q ((o.semAt ρ a.eval).run P w)
 rw[ha.eval,this];exact hk v w' h
theorem uO{o:Oper}{R:Value→World→Prop}{w':World}(hr:(execOp (ev t) o).run P w= .ok .skip w')(h:R undef w'):Yd P ρ N o t w R:=by
 intro a ha K Q hk
 refine⟨fun _ _=>trivial,?_⟩
 have:=rX (ρ:=ρ) hr (fun d e=>ZB)
 show o.uponIn (Fw ρ) 0 P a K Q ((o.semAt ρ a.eval).run P w)
 rw[ha.eval,this];exact hk undef w' h
theorem Gi{f:Nat}{args:Array Value}{R:Ending→World→Prop}(h:Calls P f args w R):CallsIn (Fw ρ) 0 P f args w R:=by
 have h':CallsIn Fence.wide 0 P f args w R:=callsIn_wide.2 h
 exact h'
theorem uM{o:Oper}{R:Value→World→Prop}{f:Nat}{args:Array Value}{w':World}(hr:(execOp (ev t) o).run P w= .ok (.enter f args) w')(h:Calls P f args w' fun e w''=>∃v,e= .returned v∧R v w''):Yd P ρ N o t w R:=by
 intro a ha K Q hk
 refine⟨fun _ _=>trivial,?_⟩
 have:=rX (ρ:=ρ) hr (fun d e=>ZB)
 show o.uponIn (Fw ρ) 0 P a K Q ((o.semAt ρ a.eval).run P w)
 rw[ha.eval,this]
 refine⟨(fun e=>ZB),(Gi h).mono ?_⟩
 rintro e w'' ⟨v,rfl,r⟩
 exact hk v w'' r
end
section
variable{P:Program}{ρ:Option Nat}{ops:Array Oper}{Q:Exit→Act→World→Prop}{md:Region.Mode}{S:World→Prop}{ds:List Nat}
theorem Ee{i:Nat}{o:Oper}{v:Value}{a:Act}(hi:ops[i]? =some o)(hy:YieldsIf P ops S o v a){K:Act→World→Prop}{w:World}(hS:S w)(h:K (a.put o.dst v) w):wpOpIn (Fw ρ) 0 P ops Q i K a w:=by
 unfold Go.wpOpIn
 simp only[hi]
 rcases hy with⟨hw,hv⟩|⟨hw,rfl⟩
 ·simp only[hw,Nw]
  refine⟨fun _ _=>trivial,?_⟩
  have:=rX (ρ:=ρ) (hv w hS) (fun d e=>ZB)
  show o.uponIn (Fw ρ) 0 P a K Q ((o.semAt ρ a.eval).run P w)
  rw[this];exact h
 simp only[hw,NW,ZC];exact⟨fun _ _=>trivial,h⟩
theorem QJ{j:Nat}{oi oj:Oper}{v:Value}(hj:ops[j]? =some oj)(hap:oi.apart ops oj=true)(hsi:∀cs b,oi.op≠ .select cs b)(hsj:∀cs b,oj.op≠ .select cs b)(hdj:∀c,oj.op≠ .defer c)(hQ:∀c a w,Q (.panic c) (a.put oi.dst v) w→Q (.panic c) a w)(hL:LetsOut Q→LetsOut Q){K:Act→World→Prop}{a:Act}{w:World}(hy:YieldsIf P ops S oi v a)(h:wpOpIn (Fw ρ) 0 P ops Q j K (a.put oi.dst v) w):
 wpOpIn (Fw ρ) 0 P ops Q j (fun a' w'=>YieldsIf P ops S oi v a'∧K (a'.put oi.dst v) w') a w:=by
 obtain⟨h1,h2,h3⟩:=Oper.apart_spec hap
 have keep:∀(a:Act),YieldsIf P ops S oi v a→∀u,YieldsIf P ops S oi v (a.put oj.dst u):=fun a hy u=>
  hy.of_same (execOp_put oi hsi a oj.dst u h3) (wanted_put oi a oj.dst u h3)
 have keepD:∀d,YieldsIf P ops S oi v {a with defers:=d::a.defers}:=fun d=>hy.of_same rfl rfl
 unfold wpOpIn at *
 simp only[hj]at *
 rw[wanted_put oj a oi.dst v h1]at h
 split
 ·rename_i hw
  simp only[hw,Nw]at h
  refine⟨fun _ _=>trivial,?_⟩
  have h':oj.uponIn (Fw ρ) 0 P (a.put oi.dst v) K Q ((oj.semAt ρ (a.put oi.dst v).eval).run P w):=h.2
  show oj.uponIn (Fw ρ) 0 P a _ Q ((oj.semAt ρ a.eval).run P w)
  rw[Oper.semAt_eq _ _ _ hdj]at h'⊢
  rw[execOp_put oj hsj a oi.dst v h1]at h'
  generalize(execOp a.eval oj).run P w=r at *
  cases r with
  |ok n w'=>
   cases n<;>simp only[Oper.uponIn]at h'⊢
   case value u=>exact⟨keep a hy u,by rw[←Act.put_comm a v u h2];exact h'⟩
   case skip=>exact⟨keep a hy _,by rw[←Act.put_comm a v undef h2];exact h'⟩
   case defer d=>
    refine⟨keep _ (keepD d) _,?_⟩
    rw[←Act.put_comm _ v undef h2,←Act.put_defers]
    exact h'
   case enter f args=>
    refine⟨h'.1,CallsIn.mono h'.2 fun e w'' he=>?_⟩
    cases e with
    |returned u=>exact⟨keep a hy u,NZ⟩
    |panicked c=>exact hQ _ _ _ he
    |outgrown=>exact he
   case row row args=>exact⟨h'.1,RowsIn.mono h'.2 fun u w'' he=>⟨keep a hy u,NZ⟩⟩
   case round l f tmps assign body=>
    refine⟨h'.1,RoundIn.mono h'.2 fun e w'' he=>?_⟩
    cases e with
    |returned u=>exact⟨keep a hy u,NZ⟩
    |panicked c=>exact hQ _ _ _ he
    |outgrown=>exact he
  |halt x w'=>
   cases x<;>simp only[Oper.uponIn]at h'⊢
   case panic u=>exact hQ _ _ _ h'
 rename_i hw
 simp only[hw,ZC]at h
 refine⟨fun _ _=>trivial,keep a hy undef,?_⟩
 rw[←Act.put_comm a v undef h2]
 exact h.2
def wA(ops:Array Oper):Bool:=ops.toList.all fun o=>match o.op with| .defer _=>false|_=>true
theorem Mw(h:wA ops=true)(j:Nat)(o:Oper)(c:Call)(hj:ops[j]? =some o):o.op≠ .defer c:=by
 intro e
 have hm:o∈ops.toList:=by
  have:ops.toList[j]? =some o:=aat
  exact ω this
 have:=Y_.1 h o hm
 rw[e]at this
 cases this
def nk(P:Program)(ρ:Option Nat)(md:Region.Mode)(ops:Array Oper)(Q:Exit→Act→World→Prop)(S:World→Prop)(ds:List Nat):Nat→Array Bool→Act→World→Prop
 |0,listed,a,w=>Region.ready md ops listed=[]∧Q .normal a w
 |fuel+1,listed,a,w=>
  (Region.ready md ops listed=[]→Q .normal a w)∧
  ∀i∈Region.ready md ops listed,wpOpIn (Fw ρ) 0 P ops Q i (fun a' w'=>(i ∉ ds→S w')∧nk P ρ md ops Q S ds fuel (listed.setIfInBounds i true) a' w') a w
theorem D1:∀(fuel:Nat)(listed:Array Bool)(a:Act)(w:World),nk P ρ md ops Q S ds fuel listed a w→wpAnyIn (Fw ρ) 0 P md ops Q fuel listed a w
 |0,_,_,_,h=>h
 |fuel+1,_,_,_,h=>⟨h.1,fun i hi=>wpOpIn_mono (fun a' w' h'=>D1 fuel _ a' w' h'.2) (h.2 i hi)⟩
theorem QI{i:Nat}{oi:Oper}{v:Value}(hi:ops[i]? =some oi)(hsel:∀(j:Nat)(o:Oper) cs b,ops[j]? =some o→o.op≠ .select cs b)(hdef:∀(j:Nat)(o:Oper) c,ops[j]? =some o→o.op≠ .defer c)(hds:∀d∈ds,d≠i→∀od,ops[d]? =some od→∃e∈od.after,Region.binds md e=true∧e.on=i)(hQ:∀c a w,Q (.panic c) (a.put oi.dst v) w→Q (.panic c) a w):
 ∀(fuel:Nat)(listed:Array Bool)(a:Act)(w:World),
  (∀j oj,ops[j]? =some oj→j≠i→listed.getD j true=false→(∀e∈oj.after,Region.binds md e=true→e.on≠i)→oi.apart ops oj=true)→
  i∈Region.ready md ops listed→YieldsIf P ops S oi v a→S w→
  nk P ρ md ops Q S ds fuel (listed.setIfInBounds i true) (a.put oi.dst v) w→nk P ρ md ops Q S ds (fuel+1) listed a w:=by
 intro fuel
 induction fuel with
 |zero=>
  intro listed a w _ hr hy hS H
  refine⟨fun h=>(by rw[h]at hr;cases hr),fun j hj=>?_⟩
  by_cases hji:j=i
  ·subst hji;exact Ee hi hy hS ⟨fun _=>hS,H⟩
  have:=ready_mono hj hji
  rw[H.1]at this
  cases this
 |succ fuel ih=>
  intro listed a w hfree hr hy hS H
  refine⟨fun h=>(by rw[h]at hr;cases hr),fun j hj=>?_⟩
  by_cases hji:j=i
  ·subst hji;exact Ee hi hy hS ⟨fun _=>hS,H⟩
  have h1:=H.2 j (ready_mono hj hji)
  obtain⟨hjun,oj,hoj,hall⟩:=mem_ready.1 hj
  have hnot:∀e∈oj.after,Region.binds md e=true→e.on≠i:=fun e he hb heq=>by
   have h1:=hall e he hb
   have h0:=(mem_ready.1 hr).1
   rw[heq]at h1
   rcases Me i listed.size with h'|h'
   ·simp[h']at h0 h1;rw[h0]at h1;cases h1
   simp[Nj h']at h1
  have hjd:j ∉ ds:=fun hd=>by
   obtain⟨e,he,hb,ho⟩:=hds j hd hji oj hoj
   exact hnot e he hb ho
  have h2:=QJ hoj (hfree j oj hoj hji hjun hnot) (fun cs b=>hsel i oi cs b hi) (fun cs b=>hsel j oj cs b hoj) (fun c=>hdef j oj c hoj) hQ id hy h1
  have hfree':∀k ok,ops[k]? =some ok→k≠i→(listed.setIfInBounds j true).getD k true=false→
   (∀e∈ok.after,Region.binds md e=true→e.on≠i)→oi.apart ops ok=true:=fun k ok hk hki hun hno=>by
   refine hfree k ok hk hki ?_ hno
   by_cases hjk:j=k
   ·subst hjk;exact hjun
   rw[getD_set_ne true hjk]at hun;exact hun
  refine wpOpIn_mono (fun a' w' h3=>⟨h3.2.1,ih (listed.setIfInBounds j true) a' w' hfree' (ready_mono hr (Z7 hji)) h3.1 (h3.2.1 hjd) ?_⟩) h2
  rw[Array.setIfInBounds_comm _ _ hji]
  exact h3.2.2
theorem uH{i:Nat}{oi:Oper}{v:Value}{fuel:Nat}{listed:Array Bool}{a:Act}{w:World}(hi:ops[i]? =some oi)(hs:Region.noSelect ops=true)(hn:wA ops=true)(hds:∀d∈ds,d≠i→∀od,ops[d]? =some od→∃e∈od.after,Region.binds md e=true∧e.on=i)(hf:Region.free md ops listed i=true)(hr:(Region.ready md ops listed).contains i=true)(hQ:∀c a w,Q (.panic c) (a.put oi.dst v) w→Q (.panic c) a w)(hy:YieldsIf P ops S oi v a)(hS:S w)(h:nk P ρ md ops Q S ds fuel (listed.setIfInBounds i true) (a.put oi.dst v) w):nk P ρ md ops Q S ds (fuel+1) listed a w:=
 QI hi (Region.noSelect_spec hs) (Mw hn) hds hQ fuel listed a w (Region.free_spec hi hf) (by simpa using hr) hy hS h
theorem QH{listed:Array Bool}{a:Act}{w:World}(hr:Region.ready md ops listed=[])(h:Q .normal a w):
 ∀fuel,nk P ρ md ops Q S ds fuel listed a w
 |0=>⟨hr,h⟩
 |_+1=>⟨fun _=>h,by rw[hr];simp⟩
def DV(ops:Array Oper)(ds:List Nat)(i:Nat):Bool:=
 ds.all fun d=>d==i||((ops[d]?).all fun o=>o.after.any fun e=>Region.binds .any e&&e.on==i)
theorem uG{i:Nat}(h:DV ops ds i=true):∀d∈ds,d≠i→∀od,ops[d]? =some od→∃e∈od.after,Region.binds .any e=true∧e.on=i:=by
 intro d hd hne od ho
 have h1:=Y_.1 h d hd
 simp only[KZ,Nz,hne,false_or,ho,Option.all_some,Array.any_eq_true',S_]at h1
 exact h1
end
section
variable{P:Program}{ρ:Option Nat}{N:Nat}{Q:Exit→Fr→World→Prop}{t:Fr}{w:World}
def Wa(P:Program)(ρ:Option Nat)(N:Nat)(ops:Array Oper)(Q:Exit→Fr→World→Prop)(S:World→Prop)(ds:List Nat)(n:Nat)(l:Array Bool)(t:Fr)(w:World):Prop:=
 ∀a,Fm N t a→nk P ρ .any ops (fun e a' w'=>∃t',Fm N t' a'∧NP e∧Q e t' w') S ds n l a w
theorem DW{id n:Nat}{l:List Oper}{S:World→Prop}{ds:List Nat}(hm:P.follows .mixedOrders=true)(hn:l.length=n)(h:Wa P ρ N l.toArray Q S ds n (Array.replicate n false) t w.drew):Wc P ρ N Q (.region id l.toArray true) t w:=by
 intro a ha
 subst hn
 exact wpIn_region_any hm (D1 _ _ _ _ (h a ha))
theorem uF{ops:Array Oper}{S:World→Prop}{ds:List Nat}{n:Nat}{l:Array Bool}(hr:(Region.ready .any ops l==[])=true)(h:Q .normal t w):Wa P ρ N ops Q S ds n l t w:=by
 intro a ha
 exact QH (by simpa using hr) ⟨t,ha,nofun,h⟩ n
def kF(ops:Array Oper)(ds:List Nat)(l l':Array Bool)(i:Nat):Bool:=
 wA ops&&Region.noSelect ops&&DV ops ds i&&Region.free .any ops l i&&(Region.ready .any ops l).contains i&&(l.setIfInBounds i true==l')
theorem kI{ops:Array Oper}{S:World→Prop}{ds:List Nat}{n:Nat}{l l':Array Bool}{i:Nat}{o:Oper}{v:Value}(hi:ops[i]? =some o)(hg:o.guard=none)(hd:ok N o.dst=true)(hc:kF ops ds l l' i=true)(hS:S w)(hr:∀w,S w→(execOp (ev t) o).run P w= .ok (.value v) w)(h:Wa P ρ N ops Q S ds n l' (cP t o.dst v) w):Wa P ρ N ops Q S ds (n+1) l t w:=by
 simp only[kF,S_,Nz]at hc
 obtain⟨⟨⟨⟨⟨hnd,h1⟩,h0⟩,h2⟩,h3⟩,h4⟩:=hc
 intro a ha
 refine uH hi h1 hnd (uG h0) h2 h3 (fun c _ _ h=>h.elim fun _ h=>(h.2.1 c rfl).elim) (.inl ⟨by simp[Region.wanted,hg],fun w hw=>by rw[ha.eval];exact hr w hw⟩) hS ?_
 rw[h4]
 exact h _ (ha.put hd v)
theorem wt{ops:Array Oper}{S:World→Prop}{ds:List Nat}{n:Nat}{l:Array Bool}(i:Nat)(l':Array Bool){o:Oper}{v:Value}(hi:ops[i]? =some o)(hg:o.guard=none)(hd:ok N o.dst=true)(hc:kF ops ds l l' i=true)(hS:S w)(hr:∀w,S w→(execOp (ev t) o).run P w= .ok (.value v) w)(h:Wa P ρ N ops Q S ds n l' (cP t o.dst v) w):Wa P ρ N ops Q S ds (n+1) l t w:=
 kI hi hg hd hc hS hr h
theorem Qz{ops:Array Oper}{S:World→Prop}{ds:List Nat}{n:Nat}{l l':Array Bool}{i j:Nat}{o:Oper}{v:Value}{b c:Bool}(hi:ops[i]? =some o)(hg:o.guard=some (j,b))(hy':yd ops t j=some c)(hcb:c=b)(hd:ok N o.dst=true)(hc:kF ops ds l l' i=true)(hS:S w)(hr:∀w,S w→(execOp (ev t) o).run P w= .ok (.value v) w)(h:Wa P ρ N ops Q S ds n l' (cP t o.dst v) w):Wa P ρ N ops Q S ds (n+1) l t w:=by
 have hy:yd ops t j=some b:=hcb▸hy'
 simp only[kF,S_,Nz]at hc
 obtain⟨⟨⟨⟨⟨hnd,h1⟩,h0⟩,h2⟩,h3⟩,h4⟩:=hc
 intro a ha
 refine uH hi h1 hnd (uG h0) h2 h3 (fun c _ _ h=>h.elim fun _ h=>(h.2.1 c rfl).elim) (.inl ⟨by simp[Region.wanted,hg,sf ha hy],fun w hw=>by rw[ha.eval];exact hr w hw⟩) hS ?_
 rw[h4]
 exact h _ (ha.put hd v)
theorem Qx{ops:Array Oper}{S:World→Prop}{ds:List Nat}{n:Nat}{l l':Array Bool}{i j:Nat}{o:Oper}{b c c':Bool}(hi:ops[i]? =some o)(hg:o.guard=some (j,b))(hy':yd ops t j=some c')(hcc:c'=c)(hbc:(c==b)=false)(hd:ok N o.dst=true)(hc:kF ops ds l l' i=true)(hS:S w)(h:Wa P ρ N ops Q S ds n l' (cP t o.dst undef) w):Wa P ρ N ops Q S ds (n+1) l t w:=by
 have hy:yd ops t j=some c:=hcc▸hy'
 simp only[kF,S_,Nz]at hc
 obtain⟨⟨⟨⟨⟨hnd,h1⟩,h0⟩,h2⟩,h3⟩,h4⟩:=hc
 intro a ha
 refine uH hi h1 hnd (uG h0) h2 h3 (fun c _ _ h=>h.elim fun _ h=>(h.2.1 c rfl).elim) (.inr ⟨by simp[Region.wanted,hg,sf ha hy];intro e;subst e;simp at hbc,rfl⟩) hS ?_
 rw[h4]
 exact h _ (ha.put hd undef)
theorem nj{ops:Array Oper}{S:World→Prop}{ds:List Nat}{n:Nat}{l l':Array Bool}{i:Nat}{o:Oper}(hi:ops[i]? =some o)(hg:o.guard=none)(hd:ok N o.dst=true)(hc:((Region.ready .any ops l==[i])&&(l.setIfInBounds i true==l'))=true)(h:Yd P ρ N o t w fun v w'=>(i ∉ ds→S w')∧Wa P ρ N ops Q S ds n l' (cP t o.dst v) w'):Wa P ρ N ops Q S ds (n+1) l t w:=by
 simp only[S_,Nz]at hc
 obtain⟨h1,h2⟩:=hc
 intro a ha
 refine⟨fun h0=>aaM,fun j hj=>?_⟩
 rw[h1,Q_]at hj
 subst hj
 unfold wpOpIn
 simp only[hi,Region.wanted,hg,Nw]
 refine h a ha _ _ fun v w' ⟨s,r⟩=>⟨s,?_⟩
 rw[h2]
 exact r _ (ha.put hd v)
theorem sd{ops:Array Oper}{S:World→Prop}{ds:List Nat}{n:Nat}{l l':Array Bool}{i:Nat}{o:Oper}{v:Value}(hi:ops[i]? =some o)(hg:o.guard=none)(hd:ok N o.dst=true)(hc:((Region.ready .any ops l==[i])&&(l.setIfInBounds i true==l'))=true)(hS:S w)(hr:(execOp (ev t) o).run P w= .ok (.value v) w)(h:Wa P ρ N ops Q S ds n l' (cP t o.dst v) w):Wa P ρ N ops Q S ds (n+1) l t w:=nj hi hg hd hc (eD hr ⟨fun _=>hS,h⟩)
theorem qo{x:Operand}{c d:Code}{b:Bool}(hx:ev t x= .bool b)(hb:b=true)(h1:Wc P ρ N Q c t w):Wc P ρ N Q (.cond x c d) t w:=cl (hb▸hx) h1
theorem QB{x:Operand}{c d:Code}{b:Bool}(hx:ev t x= .bool b)(hb:b=false)(h1:Wc P ρ N Q d t w):Wc P ρ N Q (.cond x c d) t w:=bS (hb▸hx) h1
def t0(args:List Value):Fr:=fun i=>args.getD i undef
def Tk(P:Program):List Deferred→World→(World→Prop)→Prop
 | [],w,K=>K w
 |d::ds,w,K=>∃D w1,d=pW D∧(Instr.takeDeferred D).run P w= .ok [] w1∧Tk P ds w1 K
def nq(P:Program)(N:Nat)(fn:Func)(R:Value→World→Prop)(e:Exit)(t:Fr)(w:World):Prop:=
 (e= .ret∨e= .normal)∧∃v,Tk P (marks (t 1000000)) w fun w'=>(∀a,Fm N t a→(results fn a.tmps).run P w'= .ok v w')∧R v w'
theorem DC{fn:Func}{tm:Array Value}{R:Ending→World→Prop}{v:Value}:∀(ds:List Deferred)(w:World),Tk P ds w (fun w'=>(results fn tm).run P w'= .ok v w'∧R (.returned v) w')→LeavesInM (Fw none) 0 P fn tm R ds .returning w
 | [],w,h=>⟨v,h.1,h.2⟩
 |d::ds,w,⟨D,w1,hd,ht,h⟩=>⟨nofun,.inl ⟨D,w1,by rw[hd];rfl,ht,DC ds w1 h⟩⟩
theorem uE{K K':World→Prop}(hk:∀w,K w→K' w):∀(ds:List Deferred)(w:World),Tk P ds w K→Tk P ds w K'
 | [],w,h=>hk w h
 |d::ds,w,⟨D,w1,hd,ht,h⟩=>⟨D,w1,hd,ht,uE hk ds w1 h⟩
theorem IL{args:List Value}{n:Nat}(hl:args.length≤n)(hs:n≤1000000):Fm n (t0 args) {tmps:=args.toArray++Array.replicate (n-args.toArray.size) undef,defers:=[]}:=by
 refine⟨hs,?_,l_,fun i hi0=>?_⟩
 ·have:t0 args 1000000=undef:=by simp only[t0,NC];rw[τ a_];rfl
  rw[this];rfl
 simp only[t0,LG,NC,Array.getElem?_append]
 by_cases hi:i<args.length
 ·simp[hi]
 simp[hi,Array.getElem?_replicate]
 split<;>rfl
theorem yT{f:Nat}{fn:Func}{c:Code}{args:List Value}{R:Ending→World→Prop}(hf:P.funcs[f]? =some fn)(hb:fn.body=some c)(hN:fn.ntmps=N)(hl:args.length≤N)(hs:N≤1000000)(h:Wc P none N (nq P N fn fun v w'=>R (.returned v) w') c (t0 args) w):
 CallsIn (Fw none) 0 P f args.toArray w R:=by
 subst hN
 refine callsIn_of_wp_marks hf hb trivial ?_
 refine Code.wpIn_mono ?_ (h _ (IL hl hs))
 rintro e a w' ⟨t',fa,_,he,v,ht⟩
 have key:LeavesInM (Fw none) 0 P fn a.tmps R a.defers .returning w':=by
  rw[fa.defers]
  exact DC _ _ (uE (fun w ⟨h1,h2⟩=>⟨h1 a fa,h2⟩) _ _ ht)
 rcases he with rfl|rfl
 ·exact key
 exact key
theorem aP{f:Nat}{fn:Func}{c:Code}{args:List Value}{R:Ending→World→Prop}(hf:P.funcs[f]? =some fn)(hb:fn.body=some c)(hN:fn.ntmps=N)(hl:args.length≤N)(h:Wc P none N (nq P N fn fun v w'=>R (.returned v) w') c (t0 args) w)(hs:Nat.ble N 1000000=true:=by rfl):
 Calls P f args.toArray w R:=by
 have h':=yT hf hb hN hl (Nat.le_of_ble_eq_true hs) h
 have h'':CallsIn Fence.wide 0 P f args.toArray w R:=h'
 exact callsIn_wide.1 h''
theorem tk0{x:Value}{K:World→Prop}(hx:marks x=[])(h:K w):Tk P (marks x) w K:=by rw[hx];exact h
theorem QF{ops:Array Oper}{o:Oper}{rest:List Oper}{v:Value}(hg:o.guard=none)(hd:ok N o.dst=true)(hr:(execOp (ev t) o).run P w= .ok (.value v) w)(h:Wl P ρ N ops Q rest (cP t o.dst v) w):Wl P ρ N ops Q (o::rest) t w:=xS hg hd (eD hr h)
theorem QE{ops:Array Oper}{d:Option Nat}{op:Op}{ty:TypeId}{ps:String}{af:Array Edge}{j:Nat}{b c:Bool}{rest:List Oper}{v:Value}(hy:yd ops t j=some c)(hcb:c=b)(hd:ok N d=true)(hr:(execOp (ev t) ⟨d,op,ty,ps,af,some (j,b)⟩).run P w= .ok (.value v) w)(h:Wl P ρ N ops Q rest (cP t d v) w):Wl P ρ N ops Q (⟨d,op,ty,ps,af,some (j,b)⟩::rest) t w:=dP hy hcb hd (eD hr h)
section ops
def Rv(P:Program)(o:Oper)(t:Fr)(w:World)(v:Value):Prop:=(execOp (ev t) o).run P w= .ok (.value v) w
variable{d:Option Nat}{ty T T':TypeId}{ps:String}{af:Array Edge}{g:Option (Nat×Bool)}{x y z:Operand}{k:IntKind}{a b:Int}
theorem cz:Rv P ⟨d,.move x,ty,ps,af,g⟩ t w (ev t x):=rfl
theorem N6:Rv P ⟨d,.assign x,ty,ps,af,g⟩ t w (ev t x):=rfl
theorem OH{c:Bool}(hx:ev t x= .bool c)(hc:c=true):Rv P ⟨d,.pick x y z,ty,ps,af,g⟩ t w (ev t y):=aaG
theorem OG{c:Bool}(hx:ev t x= .bool c)(hc:c=false):Rv P ⟨d,.pick x y z,ty,ps,af,g⟩ t w (ev t z):=aaG
theorem aX{vs:Array Value}{i:Nat}{v:Value}(hx:ev t x= .tuple vs)(hv:vs[i]? =some v):Rv P ⟨d,.extract x i,ty,ps,af,g⟩ t w (v):=(by unfold Rv;simp[execOp,hx,Instr.extract,hv,go_sem])
theorem aZ(hx:ev t x= .int k a)(hy:ev t y= .int k b):Rv P ⟨d,.binOp .lss T x y T',ty,ps,af,g⟩ t w (.bool (decide (a<b))):=aC
theorem gS(hx:ev t x= .int k a)(hy:ev t y= .int k b):Rv P ⟨d,.binOp .leq T x y T',ty,ps,af,g⟩ t w (.bool (decide (a≤b))):=aC
theorem dy(hx:ev t x= .int k a)(hy:ev t y= .int k b):Rv P ⟨d,.binOp .gtr T x y T',ty,ps,af,g⟩ t w (.bool (decide (b<a))):=aC
theorem dq(hx:ev t x= .int k a)(hy:ev t y= .int k b):Rv P ⟨d,.binOp .geq T x y T',ty,ps,af,g⟩ t w (.bool (decide (b≤a))):=aC
theorem cg(hx:ev t x= .int k a)(hy:ev t y= .int k b):Rv P ⟨d,.binOp .eql T x y T',ty,ps,af,g⟩ t w (.bool (decide (a=b))):=aaY
theorem cx(hx:ev t x= .int k a)(hy:ev t y= .int k b):Rv P ⟨d,.binOp .neq T x y T',ty,ps,af,g⟩ t w (.bool (!decide (a=b))):=aaY
theorem aO(hx:ev t x= .int k a)(hy:ev t y= .int k b):Rv P ⟨d,.binOp .add T x y T',ty,ps,af,g⟩ t w (.int k (k.wrap (a+b))):=aC
theorem bV(hx:ev t x= .int k a)(hy:ev t y= .int k b):Rv P ⟨d,.binOp .sub T x y T',ty,ps,af,g⟩ t w (.int k (k.wrap (a-b))):=aC
theorem cF(hx:ev t x= .int k a)(hy:ev t y= .int k b):Rv P ⟨d,.binOp .mul T x y T',ty,ps,af,g⟩ t w (.int k (k.wrap (a*b))):=aC
theorem ie(hx:ev t x= .int k a)(hy:ev t y= .int k b)(hb:b≠0):Rv P ⟨d,.binOp .quo T x y T',ty,ps,af,g⟩ t w (.int k (k.wrap (a.tdiv b))):=aa2
theorem fg(hx:ev t x= .int k a)(hy:ev t y= .int k b)(hb:b≠0):Rv P ⟨d,.binOp .rem T x y T',ty,ps,af,g⟩ t w (.int k (a.tmod b)):=aa2
theorem jo(hx:ev t x= .int k a)(hy:ev t y= .int k b):Rv P ⟨d,.binOp .and T x y T',ty,ps,af,g⟩ t w (.int k (bits .and k a b)):=aC
theorem xj(hx:ev t x= .int k a)(hy:ev t y= .int k b):Rv P ⟨d,.binOp .or T x y T',ty,ps,af,g⟩ t w (.int k (bits .or k a b)):=aC
theorem ij(hx:ev t x= .int k a)(hy:ev t y= .int k b):Rv P ⟨d,.binOp .xor T x y T',ty,ps,af,g⟩ t w (.int k (bits .xor k a b)):=aC
theorem ox{k':IntKind}(hx:ev t x= .int k a)(hy:ev t y= .int k' b)(hb:0≤b):Rv P ⟨d,.binOp .shl T x y T',ty,ps,af,g⟩ t w (.int k (k.wrap (a*2^min b.toNat k.bits))):=(by
 have hb':¬b<0:=a_
 unfold Rv;simp only[execOp,hx,hy,eqGuard,binOp,Op.shift,hb',ZC,Sem.run_bind];rfl)
theorem fT{k':IntKind}(hx:ev t x= .int k a)(hy:ev t y= .int k' b)(hb:0≤b):Rv P ⟨d,.binOp .shr T x y T',ty,ps,af,g⟩ t w (.int k (a.fdiv (2^min b.toNat k.bits))):=(by
 have hb':¬b<0:=a_
 unfold Rv;simp only[execOp,hx,hy,eqGuard,binOp,Op.shift,hb',ZC,Sem.run_bind];rfl)
def min2(a b:Int):Int:=if b<a then b else a
def max2(a b:Int):Int:=if a<b then b else a
theorem kA{TS:Array TypeId}(hx:ev t x= .int k a)(hy:ev t y= .int k b):Rv P ⟨d,.call ⟨.builtin .min,#[x,y],TS⟩,ty,ps,af,g⟩ t w (.int k (min2 a b)):=(by unfold Rv;simp[execOp,resolve,invoke,builtin,hx,hy,Builtin.min_,Builtin.min2,min2,go_sem])
theorem uj{TS:Array TypeId}(hx:ev t x= .int k a)(hy:ev t y= .int k b):Rv P ⟨d,.call ⟨.builtin .max,#[x,y],TS⟩,ty,ps,af,g⟩ t w (.int k (max2 a b)):=(by unfold Rv;simp[execOp,resolve,invoke,builtin,hx,hy,Builtin.max_,Builtin.max2,max2,go_sem])
theorem cp{c:Bool}(hx:ev t x= .bool c):Rv P ⟨d,.unOp .not T x,ty,ps,af,g⟩ t w (.bool (!c)):=(by unfold Rv;simp[execOp,hx,go_sem])
theorem um(hx:ev t x= .int k a):Rv P ⟨d,.unOp .neg T x,ty,ps,af,g⟩ t w (.int k (k.wrap (-a))):=(by unfold Rv;simp[execOp,hx,go_sem])
theorem cD{k':IntKind}(hx:ev t x= .int k a){D:TypeDesc}(h1:P.underlying T=some D)(h2:P.underlying T'=some (.int k')):Rv P ⟨d,.convert T T' x,ty,ps,af,g⟩ t w (.int k' (k'.wrap a)):=(by unfold Rv;simp[execOp,hx,convert,run_underlying h1,run_underlying h2,go_sem])
end ops
end
structure Ch (X:Nat→Prop) (w w':World):Prop where
 os:w'.os=w.os
 tape:w'.tape=w.tape
 output:w'.output=w.output
 size:w.heap.size≤w'.heap.size
 block:∀b,b<w.heap.size→¬X b→w'.heap[b]? =w.heap[b]?
def no:Nat→Prop:=fun _=>False
theorem Ch.refl(X:Nat→Prop)(w:World):Ch X w w:=⟨rfl,rfl,rfl,LY _,fun _ _ _=>rfl⟩
theorem Ch.trans{X:Nat→Prop}{a b c:World}(h:Ch X a b)(k:Ch X b c):Ch X a c:=
 ⟨k.os.trans h.os,k.tape.trans h.tape,k.output.trans h.output,Lh h.size k.size,fun i hi hx=>(k.block i (ED hi h.size) hx).trans (h.block i hi hx)⟩
theorem Ch.trans'{X Y:Nat→Prop}{a b c:World}(h:Ch X a b)(k:Ch Y b c)(hy:∀i,i<a.heap.size→Y i→X i):Ch X a c:=
 ⟨k.os.trans h.os,k.tape.trans h.tape,k.output.trans h.output,Lh h.size k.size,fun i hi hx=>(k.block i (ED hi h.size) (fun y=>hx (hy i hi y))).trans (h.block i hi hx)⟩
theorem Ch.mono{X Y:Nat→Prop}{a b:World}(h:Ch X a b)(hy:∀i,i<a.heap.size→X i→Y i):Ch Y a b:=
 ⟨h.os,h.tape,h.output,h.size,fun i hi hx=>h.block i hi (fun x=>hx (hy i hi x))⟩
theorem Ch.drew(X:Nat→Prop)(w:World):Ch X w w.drew:=⟨rfl,rfl,rfl,LY _,fun _ _ _=>rfl⟩
theorem Ch.alloc(X:Nat→Prop)(w:World)(o:Obj):Ch X w (w.alloc o):=
 ⟨rfl,rfl,rfl,j_,fun b hb _=>Below.heap_alloc w o b hb⟩
theorem Ch.set{X:Nat→Prop}(w:World)(p:Addr)(v:Value)(h:X p.block):Ch X w (w.setCell p v):=
 ⟨rfl,rfl,rfl,by simp[World.setCell],fun b _ hx=>Below.heap_setCell w p v b (fun e=>hx (e▸h))⟩
theorem Ch.below{w w':World}(h:Ch no w w'):Below w.heap.size w w':=⟨h.os,h.tape,h.output,h.size,fun b hb=>h.block b hb (fun x=>x)⟩
theorem Ch.wT{X:Nat→Prop}{w w':World}(h:Below w.heap.size w w'):Ch X w w':=⟨h.os,h.tape,h.output,h.size,fun b hb _=>h.block b hb⟩
theorem Ch.grown{X:Nat→Prop}{w w':World}{r:Option Nat}(h:w.grownBy w' r)(hr:∀k,r=some k→X k):Ch X w w':=
 ⟨h.os,h.tape,h.output,h.size,fun b hb hx=>h.block b hb (fun e=>hx (hr b e.symm))⟩
structure Rs where
 fp:Nat→Prop
 inv:World→Prop
 loc:∀w w',(∀b,fp b→w'.heap[b]? =w.heap[b]?)→inv w→inv w'
 bd:∀w,inv w→∀b,fp b→b<w.heap.size
theorem Rs.keep{r:Rs}{X:Nat→Prop}{w w':World}(h:r.inv w)(hc:Ch X w w')(hx:∀b,r.fp b→¬X b):r.inv w':=
 r.loc w w' (fun b hb=>hc.block b (r.bd w h b hb) (hx b hb)) h
structure St (X:Nat→Prop) (w0 w:World) (L:List Rs):Prop where
 ch:Ch X w0 w
 inv:∀r∈L,r.inv w
 fp:∀r∈L,∀b,r.fp b→w0.heap.size≤b∨X b
 dj:L.Pairwise fun r s=>∀b,r.fp b→¬s.fp b
section
variable{X:Nat→Prop}{w0 w w':World}{L:List Rs}
theorem St.nil(X:Nat→Prop)(w:World):St X w w []:=⟨.refl _ _,j_,j_,.nil⟩
theorem St.Gt(H:St X w0 w L)(i:Nat){r:Rs}(hi:L[i]? =some r):r.inv w:=H.inv r (ω hi)
theorem St.call(H:St X w0 w L)(h:Ch no w w'):St X w0 w' L:=
 ⟨H.ch.trans' h (fun _ _ x=>x.elim),fun r hr=>Rs.keep (H.inv r hr) h (fun _ _ x=>x),H.fp,H.dj⟩
theorem St.put(H:St X w0 w L)(i:Nat){r r':Rs}(hi:L[i]? =some r)(h:Ch r.fp w w')(hr:r'.inv w')(hf:∀b,r'.fp b→r.fp b∨w.heap.size≤b):St X w0 w' (L.set i r'):=by
 have hlt:i<L.length:=(χ.1 hi).1
 have hget:L[i]=r:=(χ.1 hi).2
 have dj':∀j (hj:j<L.length),j≠i→∀b,L[j].fp b→¬r.fp b:=by
  intro j hj hne b h1 h2
  rcases aaC hne with hl|hl
  ·exact(Ω.1 H.dj) j i hj hlt hl b h1 (by rw[hget];exact h2)
  exact(Ω.1 H.dj) i j hlt hj hl b (by rw[hget];exact h2) h1
 refine⟨?_,?_,?_,?_⟩
 ·exact H.ch.trans' h (fun b hb x=>(H.fp r (ω hi) b x).resolve_left a_)
 ·intro s hs
  obtain⟨j,hj,e⟩:=ES hs
  rw[LV]at e
  have hj':j<L.length:=aat
  by_cases hij:i=j
  ·rw[M_ hij]at e;rw[←e];exact hr
  rw[I_ hij]at e
  rw[←e]
  exact Rs.keep (H.inv _ (T_ hj')) h (fun b h1 h2=>dj' j hj' (fun e=>hij e.symm) b h1 h2)
 ·intro s hs b hb
  rcases NK hs with h1|h1
  ·exact H.fp s h1 b hb
  subst h1
  rcases hf b hb with h2|h2
  ·exact H.fp r (ω hi) b h2
  exact .inl (Lh H.ch.size h2)
 rw[Ω]
 intro p q hp hq hpq b h1 h2
 have hp':p<L.length:=aas
 have hq':q<L.length:=by simpa using hq
 rw[LV]at h1 h2
 have old:∀j (hj:j<L.length),j≠i→L[j].fp b→r'.fp b→False:=by
  intro j hj hne hb hb'
  rcases hf b hb' with h3|h3
  ·exact dj' j hj hne b hb h3
  have:=L[j].bd w (H.inv _ (T_ hj)) b hb;omega
 by_cases hip:i=p
 ·rw[M_ hip]at h1
  rw[I_ a_]at h2
  exact old q hq' a_ h2 h1
 rw[I_ hip]at h1
 by_cases hiq:i=q
 ·rw[M_ hiq]at h2;exact old p hp' a_ h1 h2
 rw[I_ hiq]at h2
 exact(Ω.1 H.dj) p q hp' hq' hpq b h1 h2
theorem St.new(H:St X w0 w L){r:Rs}(h:Ch no w w')(hr:r.inv w')(hf:∀b,r.fp b→w.heap.size≤b):St X w0 w' (L++[r]):=by
 have H':=H.call h
 refine⟨H'.ch,?_,?_,?_⟩
 ·intro s hs
  rcases dO.1 hs with h1|h1
  ·exact H'.inv s h1
  rw[Q_.1 h1];exact hr
 ·intro s hs b hb
  rcases dO.1 hs with h1|h1
  ·exact H'.fp s h1 b hb
  rw[Q_.1 h1]at hb;exact .inl (Lh H.ch.size (hf b hb))
 rw[LJ]
 refine⟨H.dj,j_,fun a ha s hs b h1 h2=>?_⟩
 rw[Q_.1 hs]at h2
 have:=a.bd w (H.inv a ha) b h1
 have:=hf b h2
 omega
theorem St.drew(H:St X w0 w L):St X w0 w.drew L:=H.call (.drew _ _)
theorem St.apart(H:St X w0 w L)(i j:Nat)(hij:i≠j){r s:Rs}(hi:L[i]? =some r)(hj:L[j]? =some s):∀b,r.fp b→¬s.fp b:=by
 obtain⟨h1,e1⟩:=χ.1 hi
 obtain⟨h2,e2⟩:=χ.1 hj
 subst e1;subst e2
 intro b x y
 rcases aaC hij with hl|hl
 ·exact(Ω.1 H.dj) i j h1 h2 hl b x y
 exact(Ω.1 H.dj) j i h2 h1 hl b y x
end
def Rs.blk(b:Nat)(cs:Array Value)(T:TypeId):Rs where
 fp:=fun x=>x=b
 inv:=fun w=>w.heap[b]? =some (.cells cs T (0,0))
 loc:=fun w w' h hi=>(h b rfl).trans hi
 bd:=fun w h x e=>by subst e;exact(ER.1 h).1
def Rs.row(E sz:Nat)(v:Value)(n:Nat)(xs:List Value):Rs where
 fp:=fun x=>v.ownBlock=some x
 inv:=fun w=>w.ownsRow 0 E sz v n xs
 loc:=fun w w' h hi=>by
  obtain⟨h1,h2⟩:=hi
  refine⟨h1,?_⟩
  rcases h2 with h2|⟨g,cap,cur,hv,hg,hh,r⟩
  ·exact .inl h2
  exact .inr ⟨g,cap,cur,hv,hg,(h g (by rw[hv];rfl)).trans hh,r⟩
 bd:=fun w h x e=>by
  obtain⟨_,h2⟩:=h
  rcases h2 with⟨h2,_⟩|⟨g,cap,cur,hv,hg,hh,r⟩
  ·rw[h2]at e;cases e
  rw[hv]at e;cases e;exact(ER.1 hh).1
section
variable{X:Nat→Prop}{w0 w:World}{L:List Rs}
theorem St.box(H:St X w0 w L)(cs:Array Value)(T:TypeId):St X w0 (w.alloc (.cells cs T)) (L++[.blk w.heap.size cs T]):=
 H.new (.alloc _ _ _) FO (fun b e=>by simp only[Rs.blk]at e;omega)
theorem ll{b o:Nat}{cs:Array Value}{T:TypeId}(v:Value)(h:(Rs.blk b cs T).inv w):(Rs.blk b (cs.setIfInBounds o v) T).inv (w.setCell ⟨b,o,none⟩ v):=by
 simp only[Rs.blk]at h⊢
 simp[World.setCell,Ns,h]
theorem St.store(H:St X w0 w L)(i:Nat){b:Nat}{cs:Array Value}{T:TypeId}(hi:L[i]? =some (.blk b cs T))(o:Nat)(v:Value):
 St X w0 (w.setCell ⟨b,o,none⟩ v) (L.set i (.blk b (cs.setIfInBounds o v) T)):=
 H.put i hi (.set _ _ _ rfl) (ll v (H.Gt i hi)) (fun _ e=> .inl e)
theorem ak{b o:Nat}{cs:Array Value}{T:TypeId}{v:Value}(h:(Rs.blk b cs T).inv w)(hv:cs[o]? =some v):w.cell? ⟨b,o,none⟩=some v:=by
 simp only[Rs.blk]at h;simp[World.cell?,h,hv]
theorem dR{b o:Nat}{cs:Array Value}{T:TypeId}(h:(Rs.blk b cs T).inv w):w.frozen? ⟨b,o,none⟩=false:=by
 simp only[Rs.blk]at h;simp[World.frozen?,h]
end
def Sc(P:Program)(T:TypeId):Prop:=∃D,P.underlying T=some D∧D.isRow=false
def Ag(P:Program)(T:TypeId)(n:Nat):Prop:=∃D,P.underlying T=some D∧D.isRow=true∧(P.info? T).map (·.size)=some n
def Sz(P:Program)(T:TypeId)(n:Nat):Prop:=(P.info? T).map (·.size)=some n
def Fa(P:Program)(T:TypeId)(f off:Nat):Prop:=∃fs fd,P.underlying T=some (.struct fs)∧fs[f]? =some fd∧fd.offset=off∧∃n,(P.info? fd.type).map (·.size)=some (n+1)
def Sl(P:Program)(T E sz by_:Nat)(z:Value):Prop:=P.underlying T=some (.slice E)∧∃i,P.info? E=some i∧i.size=sz∧i.bytes=by_∧i.zero=some z∧z.cells.size=sz∧0<sz
def En(P:Program)(f:FuncId):Prop:=∃fn c,P.funcs[f]? =some fn∧(fn.name== "runtime.NumGoroutine")=false∧fn.body=some c
section ops
variable{P:Program}{ρ:Option Nat}{N:Nat}{t:Fr}{w:World}{R:Value→World→Prop}{d:Option Nat}{ty T T':TypeId}{ps:String}{af:Array Edge}{g:Option (Nat×Bool)}{x y z:Operand}{k:IntKind}{a b o:Nat}
theorem xV{cs:Array Value}(hx:(ev t x).cells=cs)(h:R (.pointer (some ⟨w.heap.size,0,none⟩)) (w.alloc (.cells cs T))):Yd P ρ N ⟨d,.box T x,ty,ps,af,g⟩ t w R:=
 eD (by subst hx;simp[execOp,Instr.box,newVar,newRow,go_sem]) h
theorem uK{v:Value}{cs:Array Value}(hz:(P.info? T).bind (·.zero)=some v)(hc:v.cells=cs)(h:R (.pointer (some ⟨w.heap.size,0,none⟩)) (w.alloc (.cells cs T))):Yd P ρ N ⟨d,.alloc T,ty,ps,af,g⟩ t w R:=by
 refine eD ?_ h
 cases hi:P.info? T with
 |none=>simp[hi]at hz
 |some i=>
  have hz':i.zero=some v:=by simpa [hi] using hz
  subst hc
  simp[execOp,Instr.alloc,zeroValue,typeInfo,hi,hz',newVar,newRow,go_sem]
theorem av{p:Addr}{v:Value}(hT:Sc P T)(hx:ev t x= .pointer (some p))(hc:w.cell? p=some v):Rv P ⟨d,.load T x,ty,ps,af,g⟩ t w (v):=by
 obtain⟨D,h1,h2⟩:=hT
 unfold Rv
 have hagg:(isAgg T).run P w= .ok false w:=by
  unfold isAgg
  rw[Sem.run_bind,run_underlying h1 w]
  cases D<;>simp_all
 simp[execOp,hx,Instr.loadAt,Instr.sureAddr,loadVar,Sem.run_bind,hagg,hc]
theorem rT{cs:List Value}(hT:Ag P T cs.length)(hx:ev t x= .pointer (some ⟨b,o,none⟩))(hc:w.rangeAt b o cs):Rv P ⟨d,.load T x,ty,ps,af,g⟩ t w (.agg cs.toArray):=by
 obtain⟨D,h1,h2,h3⟩:=hT
 unfold Rv
 simp only[execOp,hx,Sem.run_bind,run_loadAt_mid w b o T cs D hc h1 h2 h3];rfl
theorem Ec{p:Addr}{v old:Value}(hT:Sz P T 1)(hx:ev t x= .pointer (some p))(hy:(ev t y).cells=#[v])(h1:v.oneCell'=true)(hc:w.cell? p=some old)(hf:w.frozen? p=false)(h:R undef (w.setCell p v)):
 Yd P ρ N ⟨d,.store T x y,ty,ps,af,g⟩ t w R:=by
 refine uO ?_ h
 unfold Sz at hT
 cases hi:P.info? T with
 |none=>simp[hi]at hT
 |some i=>
  have hs:i.size=1:=by simpa [hi] using hT
  have h0:p.add 0=p:=rfl
  have hst:(storeVar T p (ev t y)).run P w= .ok () (w.setCell p v):=by
   unfold storeVar
   rw[hy]
   simp[sizeOf,typeInfo,hi,hs,storeCells,h0,run_store P w p v _ h1,stored,hc,hf]
  simp only[execOp,hx,Instr.storeAt,Instr.sureAddr,Sem.run_bind,Sem.run_pure,Result.andThen_ok,hst]
theorem xZ{cs:Array Value}(hT:Sz P T cs.size)(hx:ev t x= .pointer (some ⟨b,o,none⟩))(hy:ev t y= .agg cs)(ht:w.there b o cs.size)(h1:cs.all (·.oneCell')=true)(h:R undef (w.setCells b o cs.toList)):
 Yd P ρ N ⟨d,.store T x y,ty,ps,af,g⟩ t w R:=
 uO (by simp only[execOp,hx,hy,Sem.run_bind,run_storeAt_mid w b o T cs ht hT h1];rfl) h
theorem az{f off:Nat}(hT:Fa P T f off)(hx:ev t x= .pointer (some ⟨b,o,none⟩)):Rv P ⟨d,.fieldAddr T x f,ty,ps,af,g⟩ t w (.pointer (some ⟨b,o+off,none⟩)):=by
 obtain⟨fs,fd,h1,h2,h3,n,h4⟩:=hT
 unfold Rv
 cases hi:P.info? fd.type with
 |none=>simp[hi]at h4
 |some i=>
  have hs:i.size=n+1:=by simpa [hi] using h4
  simp[execOp,hx,Instr.fieldAt,Instr.sureAddr,run_underlying h1,h2,fieldPlace,sizeOf,typeInfo,hi,hs,h3,Addr.add_mid,go_sem]
theorem kz{E sz by_:Nat}{zz:Value}{i:Int}{n c:Nat}(hT:Sl P T E sz by_ zz)(hx:ev t x= .slice (some ⟨b,o,none⟩) n c)(hy:ev t y= .int k i)(h0:0≤i)(h1:i<n):Rv P ⟨d,.indexAddr T x y,ty,ps,af,g⟩ t w (.pointer (some ⟨b,o+i.toNat*sz,none⟩)):=by
 obtain⟨h2,j,h3,h4,h5,h6,h7,h8⟩:=hT
 unfold Rv
 simp[execOp,hx,hy,Instr.indexAt,run_underlying h2,sizeOf,typeInfo,h3,h4,h0,h1,Addr.add_mid,go_sem]
theorem lP{n c:Nat}{p:Option Addr}{E:TypeId}{TS:Array TypeId}(hT:(TS[0]?).bind P.underlying=some (.slice E))(hx:ev t x= .slice p n c):Rv P ⟨d,.call ⟨.builtin .len,#[x],TS⟩,ty,ps,af,g⟩ t w (.int .i64 n):=by
 cases h0:TS[0]? with
 |none=>simp[h0]at hT
 |some T0=>
  have hT':P.underlying T0=some (.slice E):=aaR
  unfold Rv
  simp[execOp,resolve,invoke,builtin,hx,Builtin.len_,h0,run_underlying hT',goInt,go_sem]
theorem Cz{n c:Nat}{p:Option Addr}{E:TypeId}{TS:Array TypeId}(hT:(TS[0]?).bind P.underlying=some (.slice E))(hx:ev t x= .slice p n c):Rv P ⟨d,.call ⟨.builtin .cap,#[x],TS⟩,ty,ps,af,g⟩ t w (.int .i64 c):=by
 cases h0:TS[0]? with
 |none=>simp[h0]at hT
 |some T0=>
  have hT':P.underlying T0=some (.slice E):=aaR
  unfold Rv
  simp[execOp,resolve,invoke,builtin,hx,Builtin.cap_,h0,run_underlying hT',goInt,go_sem]
theorem uz{f:FuncId}(hf:En P f)(args:Array Value)(w:World):(callFunc f args).run P w= .ok (.enter f args) w:=by
 obtain⟨fn,c,h1,h2,h3⟩:=hf
 have h2':¬fn.name= "runtime.NumGoroutine" :=by simpa using h2
 simp[callFunc,h1,h2',h3,go_sem]
theorem QW{f:FuncId}{xs:Array Operand}{Rn:Array TypeId}{vs:Array Value}(hf:En P f)(hv:xs.map (ev t)=vs)(h:Calls P f vs w fun e w''=>∃v,e= .returned v∧R v w''):
 Yd P ρ N ⟨d,.call ⟨.value (.func f),xs,Rn⟩,ty,ps,af,g⟩ t w R:=by
 refine uM (f:=f) (args:=vs) (w':=w) ?_ h
 subst hv
 simp[execOp,resolve,Deferred.ofValue,ev,invoke,uz hf,go_sem]
theorem QX{f:FuncId}{xs:Array Operand}{Rn:Array TypeId}{vs cap:Array Value}(hx:ev t x= .func (.func f) #[] cap)(hf:En P f)(hv:xs.map (ev t)++cap=vs)(h:Calls P f vs w fun e w''=>∃v,e= .returned v∧R v w''):
 Yd P ρ N ⟨d,.call ⟨.value x,xs,Rn⟩,ty,ps,af,g⟩ t w R:=by
 refine uM (f:=f) (args:=vs) (w':=w) ?_ h
 subst hv
 simp[execOp,resolve,Deferred.ofValue,hx,invoke,uz hf,go_sem]
theorem OE{fn:Fn}{xs ys:Array Operand}{vs us:Array Value}(hx:xs.map (ev t)=vs)(hy:ys.map (ev t)=us):Rv P ⟨d,.makeFunc fn xs ys,ty,ps,af,g⟩ t w (.func fn vs us):=by
 subst hx;subst hy
 rfl
end ops
structure bm (α:Type) where
 sz:Nat
 en:α→List Value
 len:∀a,(en a).length=sz
 one:∀a v,v∈en a→v.oneCell'=true
def bm.int(k:IntKind):bm Int:=⟨1,fun a=> [.int k a],fun _=>rfl,fun a v h=>Np⟩
def bm.bool:bm Bool:=⟨1,fun a=> [.bool a],fun _=>rfl,fun a v h=>Np⟩
def bm.pr{α β:Type}(e:bm α)(f:bm β):bm (α×β):=
 ⟨e.sz+f.sz,fun a=>e.en a.1++f.en a.2,fun a=>by simp[e.len,f.len],fun a v h=>by
  rcases dO.1 h with h|h
  ·exact e.one _ _ h
  exact f.one _ _ h⟩
structure Kd (α:Type) where
 sz:Nat
 K:World→(Nat→Prop)→α→List Value→Prop
 len:∀w F a cs,K w F a cs→cs.length=sz
 keep:∀w w' F a cs,(∀b,F b→w'.heap[b]? =w.heap[b]?)→K w F a cs→K w' F a cs
 mono:∀w F G a cs,(∀b,F b→G b)→K w F a cs→K w G a cs
def Kd.of{α:Type}(e:bm α):Kd α:=⟨e.sz,fun _ _ a cs=>cs=e.en a,fun _ _ a cs h=>by rw[h];exact e.len a,fun _ _ _ _ _ _ h=>h,fun _ _ _ _ _ _ h=>h⟩
theorem CM{w w':World}{b o:Nat}{cs:List Value}(h:w'.heap[b]? =w.heap[b]?)(hr:w.rangeAt b o cs):w'.rangeAt b o cs:=
 fun j v hv=>(World.cell?_of_block (w:=w) (a:=⟨b,o+j,none⟩) h).trans (hr j v hv)
def Rd{α:Type}(κ:Kd α)(w:World)(F:Nat→Prop)(v:Value)(l:List α):Prop:=
 ∃p c,v= .slice p l.length c∧l.length≤c∧c≤maxLen∧((l=[]∧p=none∧c=0)∨∃b o,p=some ⟨b,o,none⟩∧F b∧∀i x,l[i]? =some x→∃cs,κ.K w F x cs∧w.rangeAt b (o+i*κ.sz) cs)
theorem Rd.keep{α:Type}{κ:Kd α}{w w':World}{F:Nat→Prop}{v:Value}{l:List α}(h:Rd κ w F v l)(hk:∀b,F b→w'.heap[b]? =w.heap[b]?):Rd κ w' F v l:=by
 obtain⟨p,c,h1,h2,h3,h4⟩:=h
 refine⟨p,c,h1,h2,h3,h4.imp id ?_⟩
 rintro⟨b,o,h5,h6,h7⟩
 exact⟨b,o,h5,h6,fun i x hx=>let⟨cs,a,r⟩:=h7 i x hx;⟨cs,κ.keep _ _ _ _ _ hk a,CM (hk b h6) r⟩⟩
theorem Rd.mono{α:Type}{κ:Kd α}{w:World}{F G:Nat→Prop}{v:Value}{l:List α}(h:Rd κ w F v l)(hk:∀b,F b→G b):Rd κ w G v l:=by
 obtain⟨p,c,h1,h2,h3,h4⟩:=h
 refine⟨p,c,h1,h2,h3,h4.imp id ?_⟩
 rintro⟨b,o,h5,h6,h7⟩
 exact⟨b,o,h5,hk b h6,fun i x hx=>let⟨cs,a,r⟩:=h7 i x hx;⟨cs,κ.mono _ _ _ _ _ hk a,r⟩⟩
def Kd.sl{α:Type}(κ:Kd α):Kd (List α):=
 ⟨1,fun w F l cs=>∃v,cs=[v]∧Rd κ w F v l,fun _ _ _ _ ⟨_,h,_⟩=>by rw[h];rfl,fun _ _ _ _ _ hk ⟨v,h1,h2⟩=>⟨v,h1,h2.keep hk⟩,fun _ _ _ _ _ hk ⟨v,h1,h2⟩=>⟨v,h1,h2.mono hk⟩⟩
def Kd.pr{α β:Type}(κ:Kd α)(μ:Kd β):Kd (α×β):=
 ⟨κ.sz+μ.sz,fun w F x cs=>∃a b,cs=a++b∧κ.K w F x.1 a∧μ.K w F x.2 b,fun _ _ _ _ ⟨_,_,h,h1,h2⟩=>by rw[h,E_,κ.len _ _ _ _ h1,μ.len _ _ _ _ h2],
  fun _ _ _ _ _ hk ⟨a,b,h,h1,h2⟩=>⟨a,b,h,κ.keep _ _ _ _ _ hk h1,μ.keep _ _ _ _ _ hk h2⟩,fun _ _ _ _ _ hk ⟨a,b,h,h1,h2⟩=>⟨a,b,h,κ.mono _ _ _ _ _ hk h1,μ.mono _ _ _ _ _ hk h2⟩⟩
def eo(v:Value)(n:Nat):Option Addr:=
 match v with
 | .slice (some a) _ _=>some ⟨a.block,a.off+n,none⟩
 |_=>none
theorem Rd.lt{α:Type}{κ:Kd α}{w:World}{F:Nat→Prop}{v:Value}{l:List α}(h:Rd κ w F v l):l.length≤maxLen:=by
 obtain⟨p,c,h1,h2,h3,h4⟩:=h;omega
theorem Rd.nil{α:Type}(κ:Kd α)(w:World)(F:Nat→Prop):Rd κ w F (.slice none 0 0) []:=⟨none,0,rfl,LY _,jc _,.inl ⟨rfl,rfl,rfl⟩⟩
theorem Rd.Gk{α:Type}{e:bm α}{w:World}{F:Nat→Prop}{v:Value}{l:List α}(h:Rd (.of e) w F v l){i j:Nat}{x:α}{u:Value}(hx:l[i]? =some x)(hu:(e.en x)[j]? =some u):
 ∃a,eo v (i*e.sz+j)=some a∧w.cell? a=some u:=by
 obtain⟨p,c,h1,h2,h3,h4⟩:=h
 rcases h4 with⟨h4,_⟩|⟨b,o,h5,h6,h7⟩
 ·subst h4;simp at hx
 obtain⟨cs,hk,hr⟩:=h7 i x hx
 have hk':cs=e.en x:=hk
 subst hk'
 refine⟨⟨b,o+(i*e.sz+j),none⟩,by subst h1;subst h5;rfl,?_⟩
 have:=hr j u hu
 rw[←ZQ];exact this
section
variable{P:Program}{ρ:Option Nat}{N:Nat}{t:Fr}{w:World}{R:Value→World→Prop}{d:Option Nat}{ty T T':TypeId}{ps:String}{af:Array Edge}{g:Option (Nat×Bool)}{x y z:Operand}{k:IntKind}{α:Type}
theorem aY{κ:Kd α}{F:Nat→Prop}{l:List α}{v:Value}{E:TypeId}{TS:Array TypeId}(hT:(TS[0]?).bind P.underlying=some (.slice E))(h:Rd κ w F v l)(hx:ev t x=v):
 Rv P ⟨d,.call ⟨.builtin .len,#[x],TS⟩,ty,ps,af,g⟩ t w (.int .i64 l.length):=by
 obtain⟨p,c,h1,h2,h3,h4⟩:=h
 exact lP hT (hx.trans h1)
theorem bo{κ:Kd α}{F:Nat→Prop}{l:List α}{v:Value}{E by_:Nat}{zz:Value}{i:Int}(hT:Sl P T E κ.sz by_ zz)(h:Rd κ w F v l)(hx:ev t x=v)(hy:ev t y= .int k i)(h0:0≤i)(h1:i<l.length):
 Rv P ⟨d,.indexAddr T x y,ty,ps,af,g⟩ t w (.pointer (eo v (i.toNat*κ.sz))):=by
 obtain⟨p,c,h2,h3,h4,h5⟩:=h
 rcases h5 with⟨h5,_⟩|⟨b,o,h5,h6,h7⟩
 ·subst h5;simp at h1;omega
 subst h5;subst h2
 exact kz hT hx hy h0 h1
theorem lO{e:bm α}{F:Nat→Prop}{l:List α}{v u:Value}{i j:Nat}{a:α}(hT:Sc P T)(h:Rd (.of e) w F v l)(ha:l[i]? =some a)(hu:(e.en a)[j]? =some u)(hx:ev t x= .pointer (eo v (i*e.sz+j))):
 Rv P ⟨d,.load T x,ty,ps,af,g⟩ t w u:=by
 obtain⟨p,h1,h2⟩:=h.Gk ha hu
 rw[h1]at hx
 exact av hT hx h2
def at_{α:Type}(z:α)(l:List α)(i:Int):α:=l.getD i.toNat z
theorem ga{α:Type}(z:α){l:List α}{i:Int}(h0:0≤i)(h1:i<l.length):l[i.toNat]? =some (at_ z l i):=by
 unfold at_;rw[NC,C_ a_];rfl
theorem bq{k':IntKind}{F:Nat→Prop}{l:List Int}{v:Value}{i:Int}(hT:Sc P T)(h:Rd (.of (.int k')) w F v l)(h0:0≤i)(h1:i<l.length)(hx:ev t x= .pointer (eo v (i.toNat*1))):
 Rv P ⟨d,.load T x,ty,ps,af,g⟩ t w (.int k' (at_ 0 l i)):=
 lO (j:=0) hT h (ga 0 h0 h1) rfl hx
end
def bm.all{α:Type}(e:bm α)(l:List α):List Value:=l.flatMap e.en
theorem bm.fC{α:Type}(e:bm α)(l:List α):(e.all l).length=l.length*e.sz:=by
 induction l with
 |nil=>simp[bm.all]
 |cons a l ih=>simp only[bm.all,KT,E_,e.len,r_]at ih⊢;rw[ih,V_];omega
theorem bm.yn{α:Type}(e:bm α)(l:List α){i j:Nat}{a:α}{u:Value}(ha:l[i]? =some a)(hu:(e.en a)[j]? =some u):(e.all l)[i*e.sz+j]? =some u:=by
 induction l generalizing i with
 |nil=>simp at ha
 |cons b l ih=>
  simp only[bm.all,KT]
  have hj:j<e.sz:=by
   have:=(χ.1 hu).1;rw[e.len]at this;exact this
  cases i with
  |zero=>
   simp only[List.getElem?_cons_zero,Ll]at ha;subst ha
   rw[ξ (by rw[e.len];omega)];simpa using hu
  |succ i=>
   have h1:(e.en b).length≤(i+1)*e.sz+j:=by rw[e.len,V_];omega
   rw[ε h1,e.len]
   have h2:(i+1)*e.sz+j-e.sz=i*e.sz+j:=O_
   rw[h2]
   exact ih (by simpa using ha)
def Rs.own{α:Type}(e:bm α)(E:TypeId)(v:Value)(l:List α):Rs:= .row E e.sz v l.length (e.all l)
theorem ao{α:Type}{e:bm α}{E:TypeId}{v:Value}{l:List α}{w:World}(h:(Rs.own e E v l).inv w):Rd (.of e) w (Rs.own e E v l).fp v l:=by
 obtain⟨_,h2⟩:=h
 rcases h2 with⟨h2,h3⟩|⟨g,cap,cur,hv,_,hh,h4,h5,h6,h7⟩
 ·have:l=[]:=Ψ h3
  subst this;subst h2
  exact Rd.nil _ _ _
 refine⟨_,cap,hv,h4,h5,.inr ⟨g,0,rfl,by show v.ownBlock=some g;rw[hv];rfl,fun i x hx=>⟨e.en x,rfl,fun j u hu=>?_⟩⟩⟩
 have h8:=e.yn l hx hu
 rw[←h7]at h8
 have h9:cur[i*e.sz+j]? =some u:=by
  rw[Ac]at h8
  split at h8
  ·simpa using h8
  cases h8
 show w.cell? ⟨g,0+i*(Kd.of e).sz+j,none⟩=some u
 simp only[Kd.of,FW]
 simp[World.cell?,hh,h9]
theorem bm.yq{α:Type}(e:bm α)(hs:0<e.sz):∀(l:List α){j:Nat}{u:Value},(e.all l)[j]? =some u→∃i r a,l[i]? =some a∧(e.en a)[r]? =some u∧j=i*e.sz+r
 | [],j,u,h=>by simp[bm.all]at h
 |a::l,j,u,h=>by
  simp only[bm.all,KT]at h
  by_cases hj:j<e.sz
  ·rw[ξ (by rw[e.len];exact hj)]at h
   exact⟨0,j,a,rfl,h,a_⟩
  rw[ε (by rw[e.len];omega),e.len]at h
  obtain⟨i,r,b,h1,h2,h3⟩:=bm.yq e hs l h
  exact⟨i+1,r,b,LX,h2,O_⟩
theorem Rd.cells{α:Type}{e:bm α}{w:World}{F:Nat→Prop}{v:Value}{l:List α}(h:Rd (.of e) w F v l)(hs:0<e.sz){a:Addr}{n c:Nat}(hv:v= .slice (some a) n c):
 n=l.length∧∀j u,(e.all l)[j]? =some u→w.cell? (a.add j)=some u:=by
 obtain⟨p,c',h1,h2,h3,h4⟩:=h
 rw[h1]at hv
 cases hv
 refine⟨rfl,fun j u hu=>?_⟩
 rcases h4 with⟨_,h5,_⟩|⟨b,o,h5,h6,h7⟩
 ·cases h5
 cases h5
 obtain⟨i,r,x,hx,hr,hj⟩:=e.yq hs l hu
 obtain⟨cs,hk,hra⟩:=h7 i x hx
 have hk':cs=e.en x:=hk
 subst hk'
 rw[Addr.add_mid,hj,←ZQ]
 exact hra r u hr
theorem bm.sB{α:Type}(e:bm α)(l:List α):∀u∈e.all l,u.oneCell'=true:=by
 intro u hu
 obtain⟨a,_,h⟩:=List.mem_flatMap.1 hu
 exact e.one a u h
theorem bm.qB{α:Type}(e:bm α)(l m:List α):e.all (l++m)=e.all l++e.all m:=by simp[bm.all,List.flatMap_append]
theorem Db{P:Program}{α:Type}{e:bm α}{w:World}{T E by_:Nat}{z:Value}{ty:TypeId}{v u:Value}{l m:List α}{F:Nat→Prop}(hT:Sl P T E e.sz by_ z)(hv:(Rs.own e E v l).inv w)(hu:Rd (.of e) w F u m)(hb:(l.length+m.length)*by_≤140737488355328)(h63:l.length+m.length≤maxLen):
 ∃v' w',(Builtin.append_ #[T,T] ty #[v,u]).run P w= .ok v' w'∧(Rs.own e E v' (l++m)).inv w'∧Ch (Rs.own e E v l).fp w w'∧(∀b,(Rs.own e E v' (l++m)).fp b→(Rs.own e E v l).fp b∨w.heap.size≤b):=by
 obtain⟨t1,i,t2,t3,t4,t5,t6,t7⟩:=hT
 have hsrc:=hu
 obtain⟨p,c,h1,h2,h3,h4⟩:=hu
 cases p with
 |none=>
  have hm:m=[]:=by
   rcases h4 with⟨h,_⟩|⟨b,o,h,_⟩
   ·exact h
   cases h
  have hc:c=0:=by
   rcases h4 with⟨_,_,h⟩|⟨b,o,h,_⟩
   ·exact h
   cases h
  subst hm;subst hc
  have:=run_append_owned_none (P:=P) w 0 T ty E i e.sz t1 t2 v l.length (e.all l) hv
  refine⟨v,w,by rw[h1];exact this,by rw[fQ];exact hv,.refl _ _,fun b hb=> .inl (by rw[fQ]at hb;exact hb)⟩
 |some a=>
  obtain⟨_,hcells⟩:=hsrc.cells t7 h1
  have hl:(e.all m).length=m.length*e.sz:=e.fC m
  rcases hv.2 with⟨hn,hl0⟩|⟨g,cap,cur,hg,_,hh,hnc,hcm,hcs,htk⟩
  ·have hl':l=[]:=Ψ hl0
   subst hl';subst hn
   obtain⟨v',w',hr,ho,hgr,_⟩:=run_append_own (P:=P) w w.heap.size T ty E i z e.sz by_ t1 t2 t5 t3 t4 t6 t7 (.slice none 0 0) 0 [] (World.ownsRow_nil w w.heap.size E e.sz) a m.length c (e.all m) hl hcells (e.sB m) (by simpa using h63) NQ (LY _)
   refine⟨v',w',by rw[h1];exact hr,?_,.grown hgr (fun k hk=>by cases hk),fun b hb=> .inr ?_⟩
   ·obtain⟨o1,o2⟩:=ho
    refine⟨by simpa [ψ] using o1,?_⟩
    rcases o2 with⟨o2,o3⟩|⟨g,cap,cur,o2,_,o4,o5,o6,o7,o8⟩
    ·exact .inl ⟨o2,by simpa using o3⟩
    exact .inr ⟨g,cap,cur,by simpa using o2,jc _,o4,by simpa using o5,o6,o7,by simpa using o8⟩
   obtain⟨o1,o2⟩:=ho
   have hb':v'.ownBlock=some b:=hb
   rcases o2 with⟨o2,o3⟩|⟨g,cap,cur,o2,o3,_⟩
   ·rw[o2]at hb';cases hb'
   rw[o2]at hb';cases hb';exact o3
  by_cases hroom:l.length+m.length≤cap
  ·subst hg
   obtain⟨w',hr,ho,hgr⟩:=run_append_fits (P:=P) w 0 T ty E i e.sz t1 t2 t3 g l.length cap (e.all l) hv a m.length c (e.all m) hl hcells (e.sB m) hroom
   refine⟨.slice (some ⟨g,0,none⟩) (l.length+m.length) cap,w',by rw[h1];exact hr,?_,.grown hgr (fun k hk=>hk),fun b hb=> .inl hb⟩
   show w'.ownsRow 0 E e.sz _ (l++m).length (e.all (l++m))
   rw[E_,e.qB];exact ho
  subst hg
  have holds:∀j u,(e.all l)[j]? =some u→w.cell? ((⟨g,0,none⟩:Addr).add j)=some u:=World.ownsRow.cells (g:=g) hv rfl
  have hr2:=run_append_grow (P:=P) (ty:=ty) w T E i z t1 t2 t5 ⟨g,0,none⟩ l.length cap (e.all l) (by rw[t3];exact e.fC l) holds a m.length c (e.all m) (by rw[t3];exact hl) hcells a_ (by unfold maxLen at h63;omega) (by rw[t4];exact growslice_fits a_ hb)
  obtain⟨v',w',hr,ho,hgr,_⟩:=run_append_own (P:=P) w 0 T ty E i z e.sz by_ t1 t2 t5 t3 t4 t6 t7 _ l.length (e.all l) hv a m.length c (e.all m) hl hcells (e.sB m) h63 hb (jc _)
  have heq:=hr.symm.trans hr2
  refine⟨v',w',by rw[h1];exact hr,?_,.grown hgr (fun k hk=>hk),fun b hb=> .inr ?_⟩
  ·show w'.ownsRow 0 E e.sz _ (l++m).length (e.all (l++m))
   rw[E_,e.qB];exact ho
  have hv':v'= .slice (some ⟨w.heap.size,0,none⟩) (l.length+m.length) (grownCap w (l.length+m.length) cap E):=by
   injection heq
  have hb':v'.ownBlock=some b:=hb
  rw[hv']at hb';cases hb';exact LY _
section
variable{P:Program}{ρ:Option Nat}{N:Nat}{t:Fr}{w w0:World}{X:Nat→Prop}{L:List Rs}{R:Value→World→Prop}{d:Option Nat}{ty T T':TypeId}{ps:String}{af:Array Edge}{g:Option (Nat×Bool)}{x y z:Operand}{α:Type}
theorem dZ{e:bm α}{E by_:Nat}{zz v u:Value}{l m:List α}{F:Nat→Prop}(hT:Sl P T E e.sz by_ zz)(H:St X w0 w L)(k:Nat)(hk:L[k]? =some (.own e E v l))(hu:Rd (.of e) w F u m)(hx:ev t x=v)(hy:ev t y=u)(hb:(l.length+m.length)*by_≤140737488355328)(h63:l.length+m.length≤maxLen)(h:∀v' w',St X w0 w' (L.set k (.own e E v' (l++m)))→R v' w'):Yd P ρ N ⟨d,.call ⟨.builtin .append,#[x,y],#[T,T]⟩,ty,ps,af,g⟩ t w R:=by
 obtain⟨v',w',h1,h2,h3,h4⟩:=Db (ty:=ty) hT (H.Gt k hk) hu hb h63
 refine eD (v:=v') (w':=w') ?_ (h v' w' (H.put k hk h3 h2 h4))
 simp[execOp,resolve,invoke,builtin,hx,hy,h1]
end
theorem CU{α:Type}(e:bm α)(z0:α)(z:Value)(hs:0<e.sz)(hz:z.cells.toList=e.en z0):∀n,(madeCells z.cells (n*e.sz)).toList=e.all (List.replicate n z0)
 |0=>by simp[madeCells,bm.all]
 |n+1=>by
  apply List.ext_getElem?
  intro j
  have hsz:z.cells.size=e.sz:=by rw[←LQ,hz,e.len]
  by_cases hj:j<(n+1)*e.sz
  ·have hd:j/e.sz<n+1:=(Nat.div_lt_iff_lt_mul hs).2 hj
   have hm:j%e.sz<e.sz:=ZE _ hs
   have h1:(List.replicate (n+1) z0)[j/e.sz]? =some z0:=by rw[Fp,M_ hd]
   have h2:(e.en z0)[j%e.sz]? =some ((e.en z0)[j%e.sz]'(by rw[e.len];exact hm)):=C_ _
   have h3:=e.yn _ h1 h2
   rw[show j/e.sz*e.sz+j%e.sz=j from Nat.div_add_mod' j e.sz]at h3
   rw[h3]
   have h4:z.cells[j%e.sz]! =(e.en z0)[j%e.sz]'(by rw[e.len];exact hm):=by
    rw[getElem!_pos z.cells (j%e.sz) (by rw[hsz];exact hm)]
    simp only[←hz]
    simp
   simp[madeCells,hj,hsz,h4]
  rw[τ (by simp[madeCells];omega),τ (by rw[e.fC];simp;omega)]
section
variable{P:Program}{ρ:Option Nat}{N:Nat}{t:Fr}{w w0:World}{X:Nat→Prop}{L:List Rs}{R:Value→World→Prop}{d:Option Nat}{ty T T':TypeId}{ps:String}{af:Array Edge}{g:Option (Nat×Bool)}{x y z:Operand}{k:IntKind}{α:Type}
theorem ee{e:bm α}{E by_:Nat}{zz:Value}{z0:α}{n c:Int}(hT:Sl P T E e.sz by_ zz)(hz:zz.cells.toList=e.en z0)(H:St X w0 w L)(hx:ev t x= .int .i64 n)(hy:ev t y= .int .i64 c)(h0:0≤n)(h1:n≤c)(hb:(by_:Int)*c≤281474976710656)(h63:c≤9223372036854775807)(h:∀v w',St X w0 w' (L++[.own e E v (List.replicate n.toNat z0)])→R v w'):Yd P ρ N ⟨d,.makeSlice T x y,ty,ps,af,g⟩ t w R:=by
 obtain⟨t1,i,t2,t3,t4,t5,t6,t7⟩:=hT
 have hr:=run_make (P:=P) w T E i zz t1 t2 t5 .i64 .i64 n c h0 h1 (by rw[t4];exact hb) h63
 rw[t3]at hr
 refine eD (v:= .slice (some ⟨w.heap.size,0,none⟩) n.toNat c.toNat) (w':=w.alloc (.cells (madeCells zz.cells (c.toNat*e.sz)) E)) (by simp only[execOp,hx,hy,Sem.run_bind,hr];rfl) (h _ _ (H.new (.alloc _ _ _) ?_ ?_))
 ·refine⟨e.fC _,.inr ⟨w.heap.size,c.toNat,madeCells zz.cells (c.toNat*e.sz),j_,jc _,?_,l_,u_,by rw[size_madeCells],?_⟩⟩
  ·show(w.heap.push _)[w.heap.size]? =_
   simp
  rw[CU e z0 zz t7 hz]
  rw[P_]
  have:e.all (List.replicate c.toNat z0)=e.all (List.replicate n.toNat z0)++e.all (List.replicate (c.toNat-n.toNat) z0):=by
   rw[←e.qB,aaO];congr 1;congr 1;omega
  rw[this,NT (by rw[e.fC];simp)]
 intro b hb
 have:(Value.slice (some ⟨w.heap.size,0,none⟩) n.toNat c.toNat).ownBlock=some b:=hb
 cases this;exact LY _
theorem QU{e:bm α}{E by_ n:Nat}{zz:Value}{parts:Array (Nat×Operand)}{l:List α}(hT:Sl P T E e.sz by_ zz)(H:St X w0 w L)(hn:l.length=n)(hle:n*e.sz≤16777216)(hf:Instr.fill (fun i=>some (i*e.sz,e.sz)) ((Array.range (n*e.sz)).map (zz.cells[·%zz.cells.size]!)) (parts.map fun(i,x)=>(i,ev t x)).toList=some (e.all l).toArray)(hn0:0<n)(h:∀v w',St X w0 w' (L++[.own e E v l])→R v w'):Yd P ρ N ⟨d,.buildSlice T n parts,ty,ps,af,g⟩ t w R:=by
 obtain⟨t1,i,t2,t3,t4,t5,t6,t7⟩:=hT
 have hne:¬(n*e.sz=0):=by
  intro h0;rcases Nat.mul_eq_zero.1 h0 with h0|h0<;>omega
 have hrun:(Instr.buildSlice T n (parts.map fun(i,x)=>(i,ev t x))).run P w= .ok (.slice (some ⟨w.heap.size,0,none⟩) n n) (w.alloc (.cells (e.all l).toArray E)):=by
  unfold Instr.buildSlice
  have hle':¬(16777216<n*e.sz):=a_
  simp only[Sem.run_bind,run_underlying t1,Result.andThen_ok]
  simp[sizeOf,typeInfo,t2,t3,hle',hne,zeroValue,t5]
  simp only[Array.toList_map]at hf
  unfold Value.cells at hf
  simp[hf,newRow,go_sem]
 refine eD (v:= .slice (some ⟨w.heap.size,0,none⟩) n n) (w':=w.alloc (.cells (e.all l).toArray E)) ?_ (h _ _ (H.new (.alloc _ _ _) ?_ ?_))
 ·simp only[execOp,Sem.run_bind,hrun];rfl
 ·refine⟨e.fC _,.inr ⟨w.heap.size,n,(e.all l).toArray,by rw[hn],jc _,?_,by rw[hn];exact LY _,?_,by simp[e.fC,hn],?_⟩⟩
  ·show(w.heap.push _)[w.heap.size]? =_
   simp
  ·have:n≤n*e.sz:=Nat.le_mul_of_pos_right n t7
   unfold maxLen;omega
  exact D_ (by rw[e.fC];exact LY _)
 intro b hb
 have:(Value.slice (some ⟨w.heap.size,0,none⟩) n n).ownBlock=some b:=hb
 cases this;exact LY _
end
theorem bm.yp{α:Type}(e:bm α):∀(l:List α){i j:Nat}{a a':α}{u:Value},l[i]? =some a→j<e.sz→e.en a'=(e.en a).set j u→e.all (l.set i a')=(e.all l).set (i*e.sz+j) u
 | [],i,j,a,a',u,h,_,_=>aS
 |b::l,0,j,a,a',u,h,hj,he=>by
  simp only[List.getElem?_cons_zero,Ll]at h
  subst h
  simp only[bm.all,FM,KT,he,ND,FW]
  rw[List.set_append_left _ _ (by rw[e.len];exact hj)]
 |b::l,i+1,j,a,a',u,h,hj,he=>by
  have ih:=bm.yp e l (i:=i) sW hj he
  simp only[bm.all,ZF,KT]at ih⊢
  rw[ih,DZ _ _ (by rw[e.len,V_];omega)]
  congr 2
  rw[e.len,V_];omega
theorem Nb{α:Type}{e:bm α}{E:TypeId}{v:Value}{l:List α}{w:World}{i j:Nat}{a a':α}{u:Value}(h:(Rs.own e E v l).inv w)(ha:l[i]? =some a)(hj:j<e.sz)(he:e.en a'=(e.en a).set j u):
 ∃p old,eo v (i*e.sz+j)=some p∧w.cell? p=some old∧w.frozen? p=false∧(Rs.own e E v (l.set i a')).inv (w.setCell p u)∧(Rs.own e E v l).fp p.block:=by
 have hi:i<l.length:=(χ.1 ha).1
 obtain⟨h1,h2⟩:=h
 rcases h2 with⟨_,h3⟩|⟨g,cap,cur,hv,_,hh,h4,h5,h6,h7⟩
 ·omega
 have hlt:i*e.sz+j<l.length*e.sz:=by
  have:(i+1)*e.sz≤l.length*e.sz:=BF _ hi
  rw[V_]at this;omega
 have hle:l.length*e.sz≤cap*e.sz:=BF _ h4
 have hcur:i*e.sz+j<cur.size:=a_
 refine⟨⟨g,i*e.sz+j,none⟩,cur[i*e.sz+j],by subst hv;simp[eo],by simp[World.cell?,hh,hcur],by simp[World.frozen?,hh],?_,by show v.ownBlock=some g;rw[hv];rfl⟩
 refine⟨e.fC _,.inr ⟨g,cap,cur.setIfInBounds (i*e.sz+j) u,by rw[υ];exact hv,jc _,?_,by rw[υ];exact h4,h5,by simp[h6],?_⟩⟩
 ·simp[World.setCell,Ns,hh]
 rw[υ,e.yp l ha hj he,←h7,abe,List.take_set]
section
variable{P:Program}{ρ:Option Nat}{N:Nat}{t:Fr}{w w0:World}{X:Nat→Prop}{L:List Rs}{R:Value→World→Prop}{d:Option Nat}{ty T T':TypeId}{ps:String}{af:Array Edge}{g:Option (Nat×Bool)}{x y z:Operand}{k:IntKind}{α:Type}
theorem Ed{e:bm α}{E:TypeId}{v u:Value}{l:List α}{i j:Nat}{a a':α}(hT:Sz P T 1)(H:St X w0 w L)(k:Nat)(hk:L[k]? =some (.own e E v l))(ha:l[i]? =some a)(hj:j<e.sz)(he:e.en a'=(e.en a).set j u)(hx:ev t x= .pointer (eo v (i*e.sz+j)))(hy:ev t y=u)(h1:u.cells=#[u])(h2:u.oneCell'=true)(h:∀w',St X w0 w' (L.set k (.own e E v (l.set i a')))→R undef w'):Yd P ρ N ⟨d,.store T x y,ty,ps,af,g⟩ t w R:=by
 obtain⟨p,old,q1,q2,q3,q4,q5⟩:=Nb (H.Gt k hk) ha hj he
 rw[q1]at hx
 exact Ec hT hx (by rw[hy];exact h1) h2 q2 q3 (h _ (H.put k hk (.set _ _ _ q5) q4 (fun b hb=> .inl hb)))
theorem dc{E:TypeId}{v:Value}{l:List Int}{i u:Int}(hT:Sz P T 1)(H:St X w0 w L)(q:Nat)(hk:L[q]? =some (.own (.int k) E v l))(h0:0≤i)(h1:i<l.length)(hx:ev t x= .pointer (eo v (i.toNat*1)))(hy:ev t y= .int k u)(h:∀w',St X w0 w' (L.set q (.own (.int k) E v (l.set i.toNat u)))→R undef w'):Yd P ρ N ⟨d,.store T x y,ty,ps,af,g⟩ t w R:=
 Ed (e:= .int k) (j:=0) hT H q hk (C_ a_) aae rfl hx hy rfl rfl h
def bz(v:Value)(lo hi sz:Nat):Value:=
 match v with
 | .slice p _ c=> .slice (if c=lo then p else p.map (·.add (lo*sz))) (hi-lo) (c-lo)
 |v=>v
theorem Rd.bz{κ:Kd α}{F:Nat→Prop}{v:Value}{l:List α}{lo hi:Nat}(h:Rd κ w F v l)(h0:lo≤hi)(h1:hi≤l.length):Rd κ w F (bz v lo hi κ.sz) ((l.take hi).drop lo):=by
 obtain⟨p,c,e1,h2,h3,h4⟩:=h
 have hl:((l.take hi).drop lo).length=hi-lo:=l_
 refine⟨if c=lo then p else p.map (·.add (lo*κ.sz)),c-lo,by rw[e1,hl];rfl,a_,a_,?_⟩
 rcases h4 with⟨h4,h5,h6⟩|⟨b,o,h5,h6,h7⟩
 ·subst h4;subst h5;subst h6
  exact .inl ⟨j_,j_,a_⟩
 subst h5
 right
 by_cases hc:c=lo
 ·refine⟨b,o,by rw[M_ hc],h6,fun i y hy=>?_⟩
  have:(l.take hi).drop lo=[]:=List.drop_eq_nil_of_le l_
  rw[this]at hy;simp at hy
 refine⟨b,o+lo*κ.sz,Z5,h6,fun i y hy=>?_⟩
 rw[IE,Ac]at hy
 split at hy
 ·obtain⟨cs,a,r⟩:=h7 _ _ hy
  exact⟨cs,a,aaW⟩
 cases hy
theorem OJ{E sz by_:Nat}{zz:Value}{p:Option Addr}{n c:Nat}{lo hi:Int}{k':IntKind}(hT:Sl P T E sz by_ zz)(hx:ev t x= .slice p n c)(hy:ev t y= .int k lo)(hz:ev t z= .int k' hi)(h0:0≤lo)(h1:lo≤hi)(h2:hi≤c):
 Rv P ⟨d,.slice T x (some y) (some z) none,ty,ps,af,g⟩ t w (bz (.slice p n c) lo.toNat hi.toNat sz):=by
 obtain⟨t1,i,t2,t3,t4,t5,t6,t7⟩:=hT
 unfold Rv
 have eh:(hi.toNat:Int)=hi:=KU a_
 simp[execOp,hx,hy,hz,Instr.sliceAt,run_underlying t1,Instr.slice,Instr.sliceBounds,run_sliceBound,sizeOf,typeInfo,t2,t3,bz,h0,h1,h2,eh,(by omega:0≤hi)]
theorem CH{E sz by_:Nat}{zz:Value}{p:Option Addr}{n c:Nat}{hi:Int}{k':IntKind}(hT:Sl P T E sz by_ zz)(hx:ev t x= .slice p n c)(hz:ev t z= .int k' hi)(h1:0≤hi)(h2:hi≤c):
 Rv P ⟨d,.slice T x none (some z) none,ty,ps,af,g⟩ t w (bz (.slice p n c) 0 hi.toNat sz):=by
 obtain⟨t1,i,t2,t3,t4,t5,t6,t7⟩:=hT
 unfold Rv
 simp[execOp,hx,hz,Instr.sliceAt,run_underlying t1,Instr.slice,Instr.sliceBounds,run_sliceBound,sizeOf,typeInfo,t2,t3,bz,h1,h2]
theorem OO{E sz by_:Nat}{zz:Value}{p:Option Addr}{n c:Nat}{lo:Int}(hT:Sl P T E sz by_ zz)(hx:ev t x= .slice p n c)(hy:ev t y= .int k lo)(h1:0≤lo)(h2:lo≤n):
 Rv P ⟨d,.slice T x (some y) none none,ty,ps,af,g⟩ t w (bz (.slice p n c) lo.toNat n sz):=by
 obtain⟨t1,i,t2,t3,t4,t5,t6,t7⟩:=hT
 unfold Rv
 simp[execOp,hx,hy,Instr.sliceAt,run_underlying t1,Instr.slice,Instr.sliceBounds,run_sliceBound,sizeOf,typeInfo,t2,t3,bz,h1,h2]
theorem CI{κ:Kd α}{E by_:Nat}{zz:Value}{F:Nat→Prop}{v:Value}{l:List α}{lo hi:Int}{k':IntKind}(hT:Sl P T E κ.sz by_ zz)(h:Rd κ w F v l)(hx:ev t x=v)(hy:ev t y= .int k lo)(hz:ev t z= .int k' hi)(h0:0≤lo)(h1:lo≤hi)(h2:hi≤l.length):
 Rv P ⟨d,.slice T x (some y) (some z) none,ty,ps,af,g⟩ t w (bz v lo.toNat hi.toNat κ.sz):=by
 obtain⟨p,c,e1,h3,_⟩:=h
 subst e1
 exact OJ hT hx hy hz h0 h1 a_
theorem fU{κ:Kd α}{E by_:Nat}{zz:Value}{F:Nat→Prop}{v:Value}{l:List α}{hi:Int}{k':IntKind}(hT:Sl P T E κ.sz by_ zz)(h:Rd κ w F v l)(hx:ev t x=v)(hz:ev t z= .int k' hi)(h1:0≤hi)(h2:hi≤l.length):
 Rv P ⟨d,.slice T x none (some z) none,ty,ps,af,g⟩ t w (bz v 0 hi.toNat κ.sz):=by
 obtain⟨p,c,e1,h3,_⟩:=h
 subst e1
 exact CH hT hx hz h1 a_
theorem iW{κ:Kd α}{E by_:Nat}{zz:Value}{F:Nat→Prop}{v:Value}{l:List α}{lo:Int}(hT:Sl P T E κ.sz by_ zz)(h:Rd κ w F v l)(hx:ev t x=v)(hy:ev t y= .int k lo)(h1:0≤lo)(h2:lo≤l.length):
 Rv P ⟨d,.slice T x (some y) none none,ty,ps,af,g⟩ t w (bz v lo.toNat l.length κ.sz):=by
 obtain⟨p,c,e1,h3,_⟩:=h
 subst e1
 exact OO hT hx hy h1 h2
def cq(v:Value)(lo hi mx sz:Nat):Value:=
 match v with
 | .slice p _ _=> .slice (if mx=lo then p else p.map (·.add (lo*sz))) (hi-lo) (mx-lo)
 |v=>v
theorem Rd.cq{κ:Kd α}{F:Nat→Prop}{v:Value}{l:List α}{lo hi mx:Nat}(h:Rd κ w F v l)(h0:lo≤hi)(h1:hi≤mx)(h2':mx≤l.length):Rd κ w F (cq v lo hi mx κ.sz) ((l.take hi).drop lo):=by
 obtain⟨p,c,e1,h2,h3,h4⟩:=h
 have hl:((l.take hi).drop lo).length=hi-lo:=l_
 refine⟨if mx=lo then p else p.map (·.add (lo*κ.sz)),mx-lo,by rw[e1,hl];rfl,a_,a_,?_⟩
 rcases h4 with⟨h4,h5,h6⟩|⟨b,o,h5,h6,h7⟩
 ·subst h4;subst h5;subst h6
  simp at h2'
  exact .inl ⟨j_,j_,a_⟩
 subst h5
 right
 by_cases hc:mx=lo
 ·refine⟨b,o,by rw[M_ hc],h6,fun i y hy=>?_⟩
  have:(l.take hi).drop lo=[]:=List.drop_eq_nil_of_le l_
  rw[this]at hy;simp at hy
 refine⟨b,o+lo*κ.sz,Z5,h6,fun i y hy=>?_⟩
 rw[IE,Ac]at hy
 split at hy
 ·obtain⟨cs,a,r⟩:=h7 _ _ hy
  exact⟨cs,a,aaW⟩
 cases hy
theorem OK{E sz by_:Nat}{zz:Value}{p:Option Addr}{n c:Nat}{lo hi mx:Int}{k' k'':IntKind}{u:Operand}(hT:Sl P T E sz by_ zz)(hx:ev t x= .slice p n c)(hy:ev t y= .int k lo)(hz:ev t z= .int k' hi)(hu:ev t u= .int k'' mx)(h0:0≤lo)(h1:lo≤hi)(h2:hi≤mx)(h3:mx≤c):
 Rv P ⟨d,.slice T x (some y) (some z) (some u),ty,ps,af,g⟩ t w (cq (.slice p n c) lo.toNat hi.toNat mx.toNat sz):=by
 obtain⟨t1,i,t2,t3,t4,t5,t6,t7⟩:=hT
 unfold Rv
 have eh:(hi.toNat:Int)=hi:=KU a_
 have em:(mx.toNat:Int)=mx:=KU a_
 simp[execOp,hx,hy,hz,hu,Instr.sliceAt,run_underlying t1,Instr.slice,Instr.sliceBounds,run_sliceBound,sizeOf,typeInfo,t2,t3,cq,h0,h1,h2,h3,eh,em,(by omega:0≤hi),(by omega:0≤mx)]
theorem kW{κ:Kd α}{E by_:Nat}{zz:Value}{F:Nat→Prop}{v:Value}{l:List α}{lo hi mx:Int}{k' k'':IntKind}{u:Operand}(hT:Sl P T E κ.sz by_ zz)(h:Rd κ w F v l)(hx:ev t x=v)(hy:ev t y= .int k lo)(hz:ev t z= .int k' hi)(hu:ev t u= .int k'' mx)(h0:0≤lo)(h1:lo≤hi)(h2:hi≤mx)(h2':mx≤l.length):
 Rv P ⟨d,.slice T x (some y) (some z) (some u),ty,ps,af,g⟩ t w (cq v lo.toNat hi.toNat mx.toNat κ.sz):=by
 obtain⟨p,c,e1,h3,_⟩:=h
 subst e1
 exact OK hT hx hy hz hu h0 h1 h2 a_
theorem B4{e:bm α}{E:TypeId}{v:Value}{l:List α}{n:Nat}(h:(Rs.own e E v l).inv w)(hn:n≤l.length):(Rs.own e E (bz v 0 n e.sz) (l.take n)).inv w∧∀b,(Rs.own e E (bz v 0 n e.sz) (l.take n)).fp b→(Rs.own e E v l).fp b:=by
 obtain⟨h1,h2⟩:=h
 have hl:(l.take n).length=n:=l_
 rcases h2 with⟨h2,h3⟩|⟨g,cap,cur,hv,_,hh,h4,h5,h6,h7⟩
 ·have hn0:n=0:=a_
  subst hn0;subst h2
  refine⟨⟨e.fC _,.inl ⟨by simp[bz],j_⟩⟩,fun b hb=>?_⟩
  simp[Rs.own,Rs.row,bz,Value.ownBlock]at hb
 have hv':bz v 0 n e.sz= .slice (some ⟨g,0,none⟩) n cap:=by
  subst hv
  simp only[bz,aaK,ND]
  split<;>simp[Addr.add]
 have hle:n*e.sz≤l.length*e.sz:=BF _ hn
 refine⟨⟨e.fC _,.inr ⟨g,cap,cur,by rw[hv',hl],jc _,hh,a_,h5,h6,?_⟩⟩,fun b hb=>?_⟩
 ·rw[hl]
  have h8:e.all l=e.all (l.take n)++e.all (l.drop n):=by rw[←e.qB,Nr]
  have h9:cur.toList.take (n*e.sz)=(cur.toList.take (l.length*e.sz)).take (n*e.sz):=by rw[abb,Nl hle]
  rw[h9,h7,h8,NT (by rw[e.fC,hl])]
 have hb':(bz v 0 n e.sz).ownBlock=some b:=hb
 rw[hv']at hb'
 show v.ownBlock=some b
 rw[hv];exact hb'
theorem St.DI{e:bm α}{E:TypeId}{v:Value}{l:List α}{n:Nat}(H:St X w0 w L)(q:Nat)(hk:L[q]? =some (.own e E v l))(hn:n≤l.length):St X w0 w (L.set q (.own e E (bz v 0 n e.sz) (l.take n))):=
 H.put q hk (.refl _ _) (B4 (H.Gt q hk) hn).1 (fun b hb=> .inl ((B4 (H.Gt q hk) hn).2 b hb))
theorem St.bB(H:St X w0 w L)(e:bm α)(E:TypeId):St X w0 w (L++[.own e E (.slice none 0 0) []]):=
 H.new (.refl _ _) ⟨PS,.inl ⟨rfl,rfl⟩⟩ (fun b hb=>by cases hb)
end
end Go.Proofs.YtmhkpafkadijgaaGreatDoor.Gw
