/- A part of the proof of Rows.PlayDecodesCardSaid; the conditions are that card's own. -/
import Derived.Test.YtmhkpafkadijgaaGreatDoorQ2
set_option linter.all false
namespace Go.Proofs.YtmhkpafkadijgaaGreatDoor.Gw
open Go Go.RowKit
section
variable{X:Nat→Prop}{w0 w:World}{L M:List Rs}{t:Fr}
theorem St.Y8(H:St X w0 w L)(is:List Nat)(h:is.map (fun i=>L[i]?)=M.map some:=by exact rfl)(hn:decide is.Nodup=true:=by exact rfl):St X w0 w M:=H.ag is h hn
theorem Za{l:List (Nat×Value)}(h:ya t l:=by repeat (first|exact trivial|refine And.intro rfl ?_)):t=aU t l:=aD h
theorem Zd(k:Nat)(h:k=0→False:=by intro h0;subst h0;cases E):∃k',k=k'+1:=by
 cases k with
 |zero=>exact(h rfl).elim
 |succ k=>exact⟨k,rfl⟩
theorem Zb{P:Program}{N f:Nat}{fn:Func}{c:Code}{args:List Value}{R:Ending→World→Prop}(hf:P.funcs[f]? =some fn)(h:Wc P none N (nq P N fn fun v w'=>R (.returned v) w') c (t0 args) w)(hb:fn.body=some c:=by exact rfl)(hN:fn.ntmps=N:=by exact rfl)(hl:Nat.ble args.length N=true:=by exact rfl)(hs:Nat.ble N 1000000=true:=by exact rfl):Calls P f args.toArray w R:=aP hf hb hN (Nat.le_of_ble_eq_true hl) h hs
end
theorem Ze{P:Prop}(h:P:=by first|exact⟨_,aI _,E,Za,H⟩|exact⟨_,_,aI _,E,Za,H⟩|exact⟨_,_,_,aI _,E,Za,H⟩|exact⟨_,_,_,_,aI _,E,Za,H⟩|exact⟨_,_,_,_,_,aI _,E,Za,H⟩|exact⟨_,_,_,_,_,_,aI _,E,Za,H⟩|exact⟨_,_,_,_,_,_,_,aI _,E,Za,H⟩|exact⟨_,_,_,_,_,_,_,_,aI _,E,Za,H⟩|exact⟨_,_,_,_,_,_,_,_,_,aI _,E,Za,H⟩|exact⟨_,_,_,_,_,_,_,_,_,_,aI _,E,Za,H⟩|exact⟨_,_,_,_,_,_,_,_,_,_,_,aI _,E,Za,H⟩|exact⟨_,_,_,_,_,_,_,_,_,_,_,_,aI _,E,Za,H⟩|exact⟨_,_,_,_,_,_,_,_,_,_,_,_,_,aI _,E,Za,H⟩):P:=h
abbrev Zc:Nat×Value:=(1000000,undef)
abbrev Y9(v:Value)(l:List Int):Rs:= .own (.int .u8) 5 v l
abbrev Zh(v:Value)(l:List Int):Rs:= .own (.int .i64) 3 v l
abbrev Zg[de](F:FD)(w0:World)(v:Value)(l:List Int):Prop:=Rd (.of (.int .u8)) w0 (Ol (Rs.ah F).fp w0) v l
abbrev Zf(X:Nat→Prop)(w0:World)(v:Value)(l:List Int):Prop:=Rd (.of (.int .u8)) w0 (Ol X w0) v l
section
variable{P:Program}{ρ:Option Nat}{N:Nat}{Q:Exit→Fr→World→Prop}{t:Fr}{w:World}{ops:Array Oper}{S:World→Prop}{ds:List Nat}{n:Nat}{l:Array Bool}{o:Oper}{v:Value}{i:Nat}{is:List Nat}
def Y0(is:List Nat)(P:Program)(ρ:Option Nat)(N:Nat)(ops:Array Oper)(Q:Exit→Fr→World→Prop)(S:World→Prop)(ds:List Nat)(n:Nat)(l:Array Bool)(t:Fr)(w:World):Prop:=S w→Wa P ρ N ops Q S ds n l t w
def YZ(o:Oper)(i:Nat)(is:List Nat)(P:Program)(ρ:Option Nat)(N:Nat)(ops:Array Oper)(Q:Exit→Fr→World→Prop)(S:World→Prop)(ds:List Nat)(n:Nat)(l:Array Bool)(t:Fr)(w:World):Prop:=ops[i]? =some o→S w→Wa P ρ N ops Q S ds n l t w
theorem Y2{r:List Oper}(hi:ops.toList.drop i=o::r)(h:YZ o i is P ρ N ops Q S ds n l t w):Y0 (i::is) P ρ N ops Q S ds n l t w:=h (by have:=congrArg List.head? hi;simpa [List.head?_drop] using this)
theorem YX(h:Wa P ρ N ops Q S ds n l t w):Y0 [] P ρ N ops Q S ds n l t w:=fun _=>h
theorem YY(hr:∀w,S w→Rv P o t w v)(h:Y0 is P ρ N ops Q S ds n (l.setIfInBounds i true) (cP t o.dst v) w)(hc:(xM N ops ds l i||Dy N ops l i)=true:=by kernel_rfl):YZ o i is P ρ N ops Q S ds (n+1) l t w:=by
 intro hi hS
 rcases(Bool.or_eq_true _ _).mp hc with h1|h1
 ·exact wz i hi hS hr (h hS) h1
 exact wy i hi hS (hr _ hS) (h hS) h1
end
section
variable{P:Program}{ρ:Option Nat}{N:Nat}{Q:Exit→Fr→World→Prop}{t:Fr}{w:World}{ops:Array Oper}{S:World→Prop}{ds:List Nat}{n:Nat}{l:Array Bool}{v:Value}{i:Nat}{is:List Nat}{d:Option Nat}{op:Op}{ty:TypeId}{ps:String}{af:Array Edge}{j:Nat}{b c c':Bool}
theorem Zl(hy:yd ops t j=some c')(hcc:c'=c)(h:Y0 is P ρ N ops Q S ds n (l.setIfInBounds i true) (cP t d undef) w)(hbc:(c==b)=false:=by exact rfl)(hc:Dx N ops ds l i=true:=by kernel_rfl):YZ ⟨d,op,ty,ps,af,some (j,b)⟩ i is P ρ N ops Q S ds (n+1) l t w:=fun hi hS=>wf i hi rfl hy hcc hS (h hS) hbc hc
theorem Zi(hy:yd ops t j=some c)(hcb:c=b)(hr:∀w,S w→Rv P ⟨d,op,ty,ps,af,some (j,b)⟩ t w v)(h:Y0 is P ρ N ops Q S ds n (l.setIfInBounds i true) (cP t d v) w)(hc:Dx N ops ds l i=true:=by kernel_rfl):YZ ⟨d,op,ty,ps,af,some (j,b)⟩ i is P ρ N ops Q S ds (n+1) l t w:=fun hi hS=>wn i hi rfl hy hcb hS hr (h hS) hc
end
section
variable{P:Program}{t:Fr}{w:World}{d:Option Nat}{ty:TypeId}{ps:String}{af:Array Edge}{g:Option (Nat×Bool)}{v:Value}{x:Operand}
theorem mI_{g:Option (Nat×Bool)}{k:IntKind}{a:Int}(h:ev t x= .int k a):Rv P ⟨d,.move x,ty,ps,af,g⟩ t w (.int k a):=mv _ h
theorem sI_{g:Option (Nat×Bool)}{k:IntKind}{a:Int}(h:ev t x= .int k a):Rv P ⟨d,.assign x,ty,ps,af,g⟩ t w (.int k a):=sg _ h
theorem mB_{g:Option (Nat×Bool)}{a:Bool}(h:ev t x= .bool a):Rv P ⟨d,.move x,ty,ps,af,g⟩ t w (.bool a):=mv _ h
theorem sB_{g:Option (Nat×Bool)}{a:Bool}(h:ev t x= .bool a):Rv P ⟨d,.assign x,ty,ps,af,g⟩ t w (.bool a):=sg _ h
theorem mP_{g:Option (Nat×Bool)}{a:Option Addr}(h:ev t x= .pointer a):Rv P ⟨d,.move x,ty,ps,af,g⟩ t w (.pointer a):=mv _ h
theorem sP_{g:Option (Nat×Bool)}{a:Option Addr}(h:ev t x= .pointer a):Rv P ⟨d,.assign x,ty,ps,af,g⟩ t w (.pointer a):=sg _ h
theorem mS_{g:Option (Nat×Bool)}{a:Option Addr}{m c:Nat}(h:ev t x= .slice a m c):Rv P ⟨d,.move x,ty,ps,af,g⟩ t w (.slice a m c):=mv _ h
theorem sS_{g:Option (Nat×Bool)}{a:Option Addr}{m c:Nat}(h:ev t x= .slice a m c):Rv P ⟨d,.assign x,ty,ps,af,g⟩ t w (.slice a m c):=sg _ h
theorem mT_{g:Option (Nat×Bool)}{a:ByteArray}(h:ev t x= .string a):Rv P ⟨d,.move x,ty,ps,af,g⟩ t w (.string a):=mv _ h
theorem sT_{g:Option (Nat×Bool)}{a:ByteArray}(h:ev t x= .string a):Rv P ⟨d,.assign x,ty,ps,af,g⟩ t w (.string a):=sg _ h
theorem mG_{g:Option (Nat×Bool)}{a:Array Value}(h:ev t x= .agg a):Rv P ⟨d,.move x,ty,ps,af,g⟩ t w (.agg a):=mv _ h
theorem sG_{g:Option (Nat×Bool)}{a:Array Value}(h:ev t x= .agg a):Rv P ⟨d,.assign x,ty,ps,af,g⟩ t w (.agg a):=sg _ h
theorem Zk{g:Option (Nat×Bool)}{k':IntKind}{F:Nat→Prop}{l:List Int}{v:Value}{i:Int}{T:TypeId}(hx:ev t x= .pointer (eo v (i.toNat*1)))(h:Rd (.of (.int k')) w F v l)(hT:Sc P T)(h0:0≤i)(h1:i<l.length):Rv P ⟨d,.load T x,ty,ps,af,g⟩ t w (.int k' (at_ 0 l i)):=bq hT h h0 h1 hx
theorem Zj{α:Type}{κ:Kd α}{F:Nat→Prop}{l:List α}{k:IntKind}{E by_:Nat}{zz:Value}{i:Int}{T:TypeId}{y:Operand}(hx:ev t x=v)(hy:ev t y= .int k i)(h:Rd κ w F v l)(hT:Sl P T E κ.sz by_ zz)(h0:0≤i)(h1:i<l.length):Rv P ⟨d,.indexAddr T x y,ty,ps,af,g⟩ t w (.pointer (eo v (i.toNat*κ.sz))):=bo hT h hx hy h0 h1
theorem Y1{α:Type}{κ:Kd α}{F:Nat→Prop}{l:List α}{E:TypeId}{TS:Array TypeId}(hT:(TS[0]?).bind P.underlying=some (.slice E))(hx:ev t x=v)(h:Rd κ w F v l):Rv P ⟨d,.call ⟨.builtin .len,#[x],TS⟩,ty,ps,af,g⟩ t w (.int .i64 l.length):=aY hT h hx
end
theorem as_{p:Prop}(h:p:=by first|assumption|fail):p:=h
theorem Zy{p:Prop}(h:p:=by first|assumption|rfl|fail):p:=h
theorem Zm{p:Prop}(h:p:=by first|exact Ew|exact Ex|exact Ey|exact yP|exact yQ|exact Ge|exact Gf|exact uZ|exact oY|exact sM|exact Ib|exact pj|exact pk|exact sN|exact sO|exact eJ|exact jh|exact nE|exact gh|exact km|exact pn|exact mn|exact pq|exact qY|exact kO|exact zB|exact zC|exact Wr|exact Ws|exact zD|exact vw|exact Ic|exact zE|exact Ie|exact cM|exact vx|exact qZ|exact pw|exact mo|exact mq|exact cS|exact gI|exact AJ|exact Jp|exact Jq|exact Jr|exact JM|exact mE|exact A5|exact JN|exact tB|exact CD|exact CE|exact CF|exact xf|exact uf|exact xg|fail):p:=h
theorem Zp{p:Prop}(h:p:=by first|exact sj|exact dk|exact sP|exact bQ|exact px|exact eU|exact bf|exact zF|exact q8|exact Ig|exact bC|exact AK|exact mB|exact Js|exact jO|exact lE|exact JY|exact mF|exact rA|exact tC|exact mQ|exact wx|exact xm|fail):p:=h
theorem Zv{p:Prop}(h:p:=by first|exact su|exact yk|exact EA|exact Gg|exact bI|exact gK|exact nF|exact tp|exact pN|exact jQ|exact na|fail):p:=h
theorem Zu{p:Prop}(h:p:=by first|exact aN|exact gl|exact ko|exact fO|exact ig|exact mG|exact mw|exact mb|exact py|exact tn|exact sk|exact uS|exact Qv|fail):p:=h
theorem Zq{p:Prop}(h:p:=by first|exact Tryz.underlying3|exact Tryz.underlying5|exact Tryz.underlying111|exact Tryz.underlying167|exact Tryz.underlying124|exact Tryz.underlying160|exact Tryz.underlying2|exact Tryz.underlying125|exact Tryz.underlying21|exact Tryz.underlying179|exact Tryz.underlying57|fail):p:=h
theorem Zo{p:Prop}(h:p:=by first|decide|assumption|omega|fail):p:=h
theorem Zn{p:Prop}(h:p:=by first|exact H.rd as_|exact ao (H.Gt 0 rfl)|exact ao (H.Gt 1 rfl)|exact ao (H.Gt 2 rfl)|exact ao (H.Gt 3 rfl)|exact ao (H.Gt 4 rfl)|exact ao (H.Gt 5 rfl)|exact ao (H.Gt 6 rfl)|exact ao (H.Gt 7 rfl)|exact ao (H.Gt 8 rfl)|exact ao (H.Gt 9 rfl)|exact ao (H.Gt 10 rfl)|exact ao (H.Gt 11 rfl)|exact ao (H.Gt 12 rfl)|exact ao (H.Gt 13 rfl)|exact ao (H.Gt 14 rfl)|exact ao (H.Gt 15 rfl)|fail):p:=h
theorem Zt{p:Prop}(h:p:=by first|exact ak (H.Gt 0 rfl) rfl|exact ak (H.Gt 1 rfl) rfl|exact ak (H.Gt 2 rfl) rfl|exact ak (H.Gt 3 rfl) rfl|exact ak (H.Gt 4 rfl) rfl|exact ak (H.Gt 5 rfl) rfl|exact ak (H.Gt 6 rfl) rfl|exact ak (H.Gt 7 rfl) rfl|exact ak (H.Gt 8 rfl) rfl|exact ak (H.Gt 9 rfl) rfl|exact ak (H.Gt 10 rfl) rfl|exact ak (H.Gt 11 rfl) rfl|exact ak (H.Gt 12 rfl) rfl|exact ak (H.Gt 13 rfl) rfl|exact ak (H.Gt 14 rfl) rfl|exact ak (H.Gt 15 rfl) rfl|fail):p:=h
section
variable{P:Program}{ρ:Option Nat}{N:Nat}{Q:Exit→Fr→World→Prop}{t:Fr}{w:World}
variable{ops:Array Oper}{d:Nat}{op:Op}{ty T:TypeId}{ps:String}{af:Array Edge}{rest:List Oper}{v:Value}{x:Operand}{p:Addr}
theorem YU{α:Type}{κ:Kd α}{F:Nat→Prop}{l:List α}{E:TypeId}{TS:Array TypeId}(hT:(TS[0]?).bind P.underlying=some (.slice E))(hx:ev t x=v)(h:Rd κ w F v l)(h':Wl P ρ N ops Q rest (upd t d (.int .i64 l.length)) w)(hd:Nat.blt d N=true:=by exact rfl):Wl P ρ N ops Q (⟨some d,.call ⟨.builtin .len,#[x],TS⟩,ty,ps,af,none⟩::rest) t w:=vr (aY hT h hx) h' hd
end
structure YV (Q:Prop):Prop where
 h:Q
theorem Zx{p:Prop}(h:p:=by
 first
  |(with_reducible show Rv _ ⟨_,.move _,_,_,_,_⟩ _ _ _);(first|exact mI_ rfl|exact mB_ rfl|exact mP_ rfl|exact mS_ rfl|exact mT_ rfl|exact mG_ rfl|exact cz)
  |(with_reducible show Rv _ ⟨_,.assign _,_,_,_,_⟩ _ _ _);(first|exact sI_ rfl|exact sB_ rfl|exact sP_ rfl|exact sS_ rfl|exact sT_ rfl|exact sG_ rfl|exact N6)
  |(with_reducible show Rv _ ⟨_,.fieldAddr _ _ _,_,_,_,_⟩ _ _ _);exact az Zm rfl
  |(with_reducible show Rv _ ⟨_,.binOp _ _ _ _ _,_,_,_,_⟩ _ _ _);(first|(with_reducible show Rv _ ⟨_,.binOp .add _ _ _ _,_,_,_,_⟩ _ _ _);exact aO rfl rfl|(with_reducible show Rv _ ⟨_,.binOp .lss _ _ _ _,_,_,_,_⟩ _ _ _);exact aZ rfl rfl|(with_reducible show Rv _ ⟨_,.binOp .eql _ _ _ _,_,_,_,_⟩ _ _ _);(first|exact cg rfl rfl|exact cV Zq rfl rfl)|(with_reducible show Rv _ ⟨_,.binOp .neq _ _ _ _,_,_,_,_⟩ _ _ _);(first|exact cx rfl rfl|exact xk Zq rfl rfl)|(with_reducible show Rv _ ⟨_,.binOp .sub _ _ _ _,_,_,_,_⟩ _ _ _);exact bV rfl rfl|(with_reducible show Rv _ ⟨_,.binOp .mul _ _ _ _,_,_,_,_⟩ _ _ _);exact cF rfl rfl|(with_reducible show Rv _ ⟨_,.binOp .leq _ _ _ _,_,_,_,_⟩ _ _ _);exact gS rfl rfl|(with_reducible show Rv _ ⟨_,.binOp .gtr _ _ _ _,_,_,_,_⟩ _ _ _);exact dy rfl rfl|(with_reducible show Rv _ ⟨_,.binOp .geq _ _ _ _,_,_,_,_⟩ _ _ _);exact dq rfl rfl|(with_reducible show Rv _ ⟨_,.binOp .and _ _ _ _,_,_,_,_⟩ _ _ _);exact jo rfl rfl|(with_reducible show Rv _ ⟨_,.binOp .xor _ _ _ _,_,_,_,_⟩ _ _ _);exact ij rfl rfl|(with_reducible show Rv _ ⟨_,.binOp .or _ _ _ _,_,_,_,_⟩ _ _ _);exact xj rfl rfl|(with_reducible show Rv _ ⟨_,.binOp .andNot _ _ _ _,_,_,_,_⟩ _ _ _);exact r_andNot rfl rfl|(with_reducible show Rv _ ⟨_,.binOp .rem _ _ _ _,_,_,_,_⟩ _ _ _);exact fg rfl rfl Zo|(with_reducible show Rv _ ⟨_,.binOp .quo _ _ _ _,_,_,_,_⟩ _ _ _);exact ie rfl rfl Zo|(with_reducible show Rv _ ⟨_,.binOp .shr _ _ _ _,_,_,_,_⟩ _ _ _);exact fT rfl rfl Zo|(with_reducible show Rv _ ⟨_,.binOp .shl _ _ _ _,_,_,_,_⟩ _ _ _);exact ox rfl rfl Zo|fail)
  |(with_reducible show Rv _ ⟨_,.load _ _,_,_,_,_⟩ _ _ _);(first|exact av Zp rfl Zt|exact Zk rfl Zn Zp as_ as_)
  |(with_reducible show Rv _ ⟨_,.extract _ _,_,_,_,_⟩ _ _ _);exact aX rfl rfl
  |(with_reducible show Rv _ ⟨_,.nilCheck _,_,_,_,_⟩ _ _ _);(first|exact bw rfl|exact xi rfl)
  |(with_reducible show Rv _ ⟨_,.pick _ _ _,_,_,_,_⟩ _ _ _);(first|exact pT _ rfl rfl as_|exact pF _ rfl rfl as_|exact pT _ rfl rfl rfl|exact pF _ rfl rfl rfl)
  |(with_reducible show Rv _ ⟨_,.indexAddr _ _ _,_,_,_,_⟩ _ _ _);exact Zj rfl rfl Zn Zu as_ as_
  |(with_reducible show Rv _ ⟨_,.unOp .not _ _,_,_,_,_⟩ _ _ _);exact cp rfl
  |(with_reducible show Rv _ ⟨_,.unOp .neg _ _,_,_,_,_⟩ _ _ _);exact um rfl
  |(with_reducible show Rv _ ⟨_,.call ⟨.builtin .len,_,_⟩,_,_,_,_⟩ _ _ _);exact Y1 Zv rfl Zn
  |(with_reducible show Rv _ ⟨_,.call ⟨.builtin .min,_,_⟩,_,_,_,_⟩ _ _ _);exact kA rfl rfl
  |(with_reducible show Rv _ ⟨_,.call ⟨.builtin .max,_,_⟩,_,_,_,_⟩ _ _ _);exact uj rfl rfl
  |(with_reducible show Rv _ ⟨_,.convert _ _ _,_,_,_,_⟩ _ _ _);exact cD rfl Zq Zq
  |fail):p:=h
theorem A_{P Q:Prop}(q_:Q)(h_:YV Q→P:=by
 intro q_
 repeat(first
  |with_reducible(first|refine rg ?_|refine nl ?_|refine ab ?_|refine ae ?_|refine aj ?_|refine aA ?_|refine aG ?_|refine aH ?_|refine aK ?_|refine aM ?_|refine aR ?_|refine bt ?_|refine bu ?_)
  |(with_reducible show Wl _ _ _ _ _ (⟨some _,_,_,_,_,none⟩::_) _ _);refine vr Zx ?_
  |(with_reducible show Wl _ _ _ _ _ (⟨some _,_,_,_,_,some _⟩::_) _ _);(first|refine ow Zy rfl ?_|refine oo Zy rfl Zx ?_)
  |(with_reducible show Wc _ _ _ _ (.cond _ _ _) _ _);(first|refine cl rfl ?_|refine bS rfl ?_)
  |(with_reducible show Wa _ _ _ _ _ _ _ _ _ _ _);refine wd ?_ (by decide+kernel)
  |fail)
 exact q_.h):P:=h_ ⟨q_⟩
theorem J_{P Q:Prop}(q_:Q)(h_:YV Q→P:=by
 intro q_
 repeat(first
  |with_reducible(first|refine rg ?_|refine nl ?_|refine ab ?_|refine aj ?_|refine aA ?_|refine aG ?_|refine aH ?_|refine aK ?_|refine aM ?_|refine aR ?_|refine bt ?_|refine bu ?_)
  |(with_reducible show Wl _ _ _ _ _ (⟨some _,_,_,_,_,none⟩::_) _ _);refine vr Zx ?_
  |(with_reducible show Wl _ _ _ _ _ (⟨some _,_,_,_,_,some _⟩::_) _ _);(first|refine ow Zy rfl ?_|refine oo Zy rfl Zx ?_)
  |(with_reducible show Wc _ _ _ _ (.cond _ _ _) _ _);(first|refine cl rfl ?_|refine bS rfl ?_)
  |(with_reducible show Wa _ _ _ _ _ _ _ _ _ _ _);refine wd ?_ (by decide+kernel)
  |fail)
 exact q_.h):P:=h_ ⟨q_⟩
theorem B_{P:Program}{ρ:Option Nat}{N:Nat}{Q:Exit→Fr→World→Prop}{t:Fr}{w:World}{ops:Array Oper}{S:World→Prop}{ds:List Nat}{n:Nat}{l:Array Bool}{Q':Prop}(is:List Nat)(hS:S w)(q_:Q')(h_:YV Q'→Y0 is P ρ N ops Q S ds n l t w:=by
 intro q_
 repeat(first
  |with_reducible refine YX ?_
  |(with_reducible show Y0 (_::_) _ _ _ _ _ _ _ _ _ _ _);refine Y2 rfl ?_;first
   |(with_reducible show YZ ⟨_,_,_,_,_,none⟩ _ _ _ _ _ _ _ _ _ _ _ _ _);(first|refine YY (fun _ H=>Zx) ?_|refine YY (fun _ ⟨_,H⟩=>Zx) ?_|refine YY (fun _ ⟨_,_,H⟩=>Zx) ?_)
   |refine Zl rfl Zy ?_
   |refine Zi rfl Zy (fun _ H=>Zx) ?_
   |refine Zi rfl Zy (fun _ ⟨_,H⟩=>Zx) ?_
   |refine Zi rfl Zy (fun _ ⟨_,_,H⟩=>Zx) ?_
   |fail)
 try refine A_ ?_
 exact q_.h):Wa P ρ N ops Q S ds n l t w:=h_ ⟨q_⟩ hS
end Go.Proofs.YtmhkpafkadijgaaGreatDoor.Gw
