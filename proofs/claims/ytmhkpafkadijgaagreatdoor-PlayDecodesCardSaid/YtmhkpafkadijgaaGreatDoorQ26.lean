/- A part of the proof of Rows.PlayDecodesCardSaid; the conditions are that card's own. -/
import Derived.Test.YtmhkpafkadijgaaGreatDoorQ1
set_option linter.all false
namespace Go.Proofs.YtmhkpafkadijgaaGreatDoor.Gw
open Go Go.RowKit
section
variable{α:Type}
def RR(X:Nat→Prop)(w0:World)(e:bm α)(B:List Nat)(w:World)(u:Value)(l:List α):Prop:=Rd (.of e) w (fun b=>b∈B) u l∨Rd (.of e) w0 (Ol X w0) u l
theorem RR.keep{X:Nat→Prop}{w0 w w':World}{e:bm α}{B B':List Nat}{u:Value}{l:List α}(h:RR X w0 e B w u l)(hb:∀b∈B,w'.heap[b]? =w.heap[b]?)(hs:∀b∈B,b∈B'):RR X w0 e B' w' u l:=
 h.imp (fun h=>(h.keep hb).mono hs) id
def Rs.rr(X:Nat→Prop)(w0:World)(e:bm α)(Ev:TypeId)(v:Value)(us:List Sv)(ls:List (List α))(ex:List (Value×List α))(B:List Nat):Rs where
 fp:=fun x=>v.ownBlock=some x∨x∈B
 inv:=fun w=>(Rs.own bm.oE Ev v us).inv w∧us.length=ls.length∧(∀(i:Nat)(u:Sv)(l:List α),us[i]? =some u→ls[i]? =some l→RR X w0 e B w (sv u) l)∧(∀p∈ex,RR X w0 e B w p.1 p.2)∧(∀b∈B,v.ownBlock≠some b∧b<w.heap.size)
 loc:=fun w w' h ⟨h1,h2,h3,h4,h5⟩=>⟨(Rs.own bm.oE Ev v us).loc w w' (fun b hb=>h b (.inl hb)) h1,h2,fun i u l hu hl=>(h3 i u l hu hl).keep (fun b hb=>h b (.inr hb)) fun _ hb=>hb,
  fun p hp=>(h4 p hp).keep (fun b hb=>h b (.inr hb)) fun _ hb=>hb,fun b hb=>⟨(h5 b hb).1,by
   have h6:=h b (.inr hb)
   rw[La (h5 b hb).2]at h6
   exact(ER.1 h6).1⟩⟩
 bd:=fun w ⟨h1,h2,h3,h4,h5⟩ x hx=>by
  rcases hx with hx|hx
  ·exact(Rs.own bm.oE Ev v us).bd w h1 x hx
  exact(h5 x hx).2
def SW(X:Nat→Prop)(w0:World)(B:List Nat):Nat→Prop:=fun b=>b∈B∨Ol X w0 b
end
section
variable{P:Program}{ρ:Option Nat}{N:Nat}{Q:Exit→Fr→World→Prop}{t:Fr}{w w0:World}{X:Nat→Prop}{L M:List Rs}{R:Value→World→Prop}{d:Option Nat}{ty T T':TypeId}{ps:String}{af:Array Edge}{g:Option (Nat×Bool)}{x y:Operand}{α:Type}{e:bm α}{Er Ev:TypeId}{v:Value}{us:List Sv}{ls:List (List α)}{ex:List (Value×List α)}{B:List Nat}
theorem RR.now{u:Value}{l:List α}(H:St X w0 w L)(h:RR X w0 e B w u l):Rd (.of e) w (SW X w0 B) u l:=
 h.elim (fun h=>h.mono fun _ hb=> .inl hb) fun h=>(H.rd h).mono fun _ hb=> .inr hb
theorem Tq{i:Int}(h:(Rs.rr X w0 e Ev v us ls ex B).inv w)(h0:0≤i)(h1:i<ls.length):us[i.toNat]? =some (at_ hz us i)∧ls[i.toNat]? =some (at_ [] ls i)∧RR X w0 e B w (sv (at_ hz us i)) (at_ [] ls i):=by
 have e1:=ga hz (l:=us) h0 (by rw[h.2.1];exact h1)
 have e2:=ga ([]:List α) h0 h1
 exact⟨e1,e2,h.2.2.1 _ _ _ e1 e2⟩
theorem Sr{i:Int}(H:St X w0 w L)(q:Nat)(hq:L[q]? =some (.rr X w0 e Ev v us ls ex B))(h0:0≤i)(h1:i<ls.length):Rd (.of e) w (SW X w0 B) (sv (at_ hz us i)) (at_ [] ls i):=
 (Tq (H.Gt q hq) h0 h1).2.2.now H
theorem X2{u:Value}{l:List α}{ex':List (Value×List α)}(H:St X w0 w L)(q:Nat)(hq:L[q]? =some (.rr X w0 e Ev v us ls ((u,l)::ex') B)):Rd (.of e) w (SW X w0 B) u l:=
 RR.now H ((H.Gt q hq).2.2.2.1 (u,l) H_)
theorem TW{κ:Kd α}{u:Value}{l:List α}(H:St X w0 w L)(q:Nat)(hq:L[q]? =some (.rr X w0 e Ev v us ls ex B))(h:Rd κ w (SW X w0 B) u l):Rd κ w (Ol no w) u l:=
 h.mono fun b hb=>⟨hb.elim (fun hb=>((H.Gt q hq).2.2.2.2 b hb).2) fun hb=>ED hb.1 H.ch.size,fun x=>x⟩
theorem R9(H:St X w0 w L)(q:Nat)(hq:L[q]? =some (.rr X w0 e Ev v us ls ex B)):Rd (.sl (.of e)) w (fun b=>v.ownBlock=some b∨SW X w0 B b) v ls:=by
 have h:=H.Gt q hq
 obtain⟨p,c,h1,h2,h3,h4⟩:=ao h.1
 refine⟨p,c,by rw[h1,h.2.1],by rw[←h.2.1];exact h2,h3,?_⟩
 rcases h4 with⟨h5,h6,h7⟩|⟨b,o,h5,h6,h7⟩
 ·exact .inl ⟨Ψ (by rw[←h.2.1,h5];rfl),h6,h7⟩
 refine .inr ⟨b,o,h5,.inl h6,fun i l hl=>?_⟩
 have hi:i<us.length:=by rw[h.2.1];exact(χ.1 hl).1
 obtain⟨cs,hc,hr⟩:=h7 i us[i] (C_ hi)
 exact⟨cs,⟨sv us[i],hc,(RR.now H (h.2.2.1 i _ _ (C_ hi) hl)).mono fun b hb=> .inr hb⟩,hr⟩
theorem SA{i:Int}(hT:Sc P T)(hi:(Rs.rr X w0 e Ev v us ls ex B).inv w)(h0:0≤i)(h1:i<ls.length)(hx:ev t x= .pointer (eo v (i.toNat*1))):Rv P ⟨d,.load T x,ty,ps,af,g⟩ t w (sv (at_ hz us i)):=
 lO (j:=0) hT (ao hi.1) (Tq hi h0 h1).1 rfl hx
theorem St.Xi(H:St X w0 w L)(e:bm α)(Ev:TypeId):St X w0 w (L++[.rr X w0 e Ev (.slice none 0 0) [] [] [] []]):=
 H.new (.refl _ _) ⟨⟨PS,.inl ⟨rfl,rfl⟩⟩,rfl,fun i u l h=>aS,fun u h=>aS,fun u h=>aS⟩ (fun b hb=>by rcases hb with hb|hb;cases hb;simp at hb)
theorem St.Wk(H:St X w0 w L)(q:Nat)(hq:L[q]? =some (.rr X w0 e Ev v us ls ex B)):St X w0 w (L.set q (.rr X w0 e Ev v us ls [] B)):=
 H.put q hq (.refl _ _) ⟨(H.Gt q hq).1,(H.Gt q hq).2.1,(H.Gt q hq).2.2.1,fun p hp=>by simp at hp,(H.Gt q hq).2.2.2.2⟩ (fun b hb=> .inl hb)
theorem YG{by_:Nat}{zz u:Value}{p:Option Addr}{n c:Nat}{l:List α}{F:Nat→Prop}(hT:Sl P T Ev 1 by_ zz)(H:St X w0 w L)(q:Nat)(hq:L[q]? =some (.rr X w0 e Ev v us ls ex B))(hr:Rd (.of e) w0 (Ol X w0) (.slice p n c) l)(hu:Rd (.of bm.oE) w F u [(p,n,c)])(hx:ev t x=v)(hy:ev t y=u)(hb:(ls.length+1)*by_≤140737488355328)(h63:ls.length+1≤maxLen)(h:∀v' us' w',St X w0 w' (L.set q (.rr X w0 e Ev v' us' (ls++[l]) ex B))→R v' w'):Yd P ρ N ⟨d,.call ⟨.builtin .append,#[x,y],#[T,T]⟩,ty,ps,af,g⟩ t w R:=by
 have hi:=H.Gt q hq
 obtain⟨v',w',h1,h2,h3,h4⟩:=Db (ty:=ty) hT hi.1 hu (by rw[hi.2.1];exact hb) (by rw[hi.2.1];exact h63)
 have hfr:∀b,v'.ownBlock=some b→v.ownBlock=some b∨w.heap.size≤b:=h4
 have hk:∀b∈B,w'.heap[b]? =w.heap[b]? :=fun b hb=>h3.block b (hi.2.2.2.2 b hb).2 (hi.2.2.2.2 b hb).1
 refine eD (v:=v') (w':=w') ?_ (h v' (us++[(p,n,c)]) w' (H.put q hq (h3.mono fun i _ hx=> .inl hx) ⟨h2,by simp[hi.2.1],?_,fun p hp=>(hi.2.2.2.1 p hp).keep hk fun _ hb=>hb,fun b hb=>⟨fun e0=>?_,?_⟩⟩ ?_))
 ·simp[execOp,resolve,invoke,builtin,hx,hy,h1]
 ·intro i u' l' hu' hl'
  by_cases hlt:i<us.length
  ·rw[ξ hlt]at hu'
   rw[ξ (by rw[←hi.2.1];exact hlt)]at hl'
   exact(hi.2.2.1 i u' l' hu' hl').keep hk fun _ hb=>hb
  have hi2:i<us.length+1:=by have:=(χ.1 hu').1;simpa using this
  have:i=us.length:=a_
  subst this
  rw[ε (aI _),Ff]at hu'
  rw[ε (by rw[hi.2.1];exact aI _),hi.2.1,Ff]at hl'
  simp at hu' hl'
  subst hu';subst hl'
  exact .inr hr
 ·rcases hfr b e0 with h5|h5
  ·exact(hi.2.2.2.2 b hb).1 h5
  have:=(hi.2.2.2.2 b hb).2;omega
 ·exact ED (hi.2.2.2.2 b hb).2 h3.size
 intro b hb
 rcases hb with hb|hb
 ·rcases hfr b hb with h5|h5
  ·exact .inl (.inl h5)
  exact .inr h5
 exact .inl (.inr hb)
theorem Vv{u:Sv}{l:List α}{i:Int}{B':List Nat}{ex':List (Value×List α)}(hi:(Rs.rr X w0 e Ev v us ls ex B).inv w)(h0:0≤i)(h1:i<ls.length)(hB:∀b∈B,b∈B')(hB':∀b∈B',v.ownBlock≠some b∧b<w.heap.size)(hl:RR X w0 e B' w (sv u) l)(hex:∀p∈ex',p∈ex∨p=(sv u,l)):
 ∃pp old,eo v (i.toNat*1)=some pp∧w.cell? pp=some old∧w.frozen? pp=false∧v.ownBlock=some pp.block∧(Rs.rr X w0 e Ev v (us.set i.toNat u) (ls.set i.toNat l) ex' B').inv (w.setCell pp (sv u)):=by
 obtain⟨e1,e2,e3⟩:=Tq hi h0 h1
 obtain⟨pp,old,q1,q3,q4,q5,q6⟩:=Nb (j:=0) (a':=u) (u:=sv u) hi.1 e1 aae rfl
 have hch:Ch (fun b=>b=pp.block) w (w.setCell pp (sv u)):= .set _ _ _ rfl
 have hk:∀b∈B',(w.setCell pp (sv u)).heap[b]? =w.heap[b]? :=fun b hb=>hch.block b (hB' b hb).2 fun e0=>(hB' b hb).1 (by rw[e0];exact q6)
 refine⟨pp,old,q1,q3,q4,q6,q5,by simp[hi.2.1],?_,?_,fun b hb=>⟨(hB' b hb).1,ED (hB' b hb).2 hch.size⟩⟩
 ·intro k u' l' hu' hl'
  by_cases hki:i.toNat=k
  ·subst hki
   rw[Ou (χ.1 e1).1]at hu'
   rw[Ou (χ.1 e2).1]at hl'
   cases hu';cases hl'
   exact hl.keep hk fun _ hb=>hb
  rw[PZ hki]at hu' hl'
  exact(hi.2.2.1 k u' l' hu' hl').keep (fun b hb=>hk b (hB b hb)) hB
 intro p hp
 rcases hex p hp with h|h
 ·exact(hi.2.2.2.1 p h).keep (fun b hb=>hk b (hB b hb)) hB
 rw[h];exact hl.keep hk fun _ hb=>hb
theorem YK{i j:Int}(hT:Sz P T 1)(H:St X w0 w L)(q:Nat)(hq:L[q]? =some (.rr X w0 e Ev v us ls ex B))(h0:0≤i)(h1:i<ls.length)(h2:0≤j)(h3:j<ls.length)(hx:ev t x= .pointer (eo v (i.toNat*1)))(hy:ev t y=sv (at_ hz us j))(h:∀us' w',St X w0 w' (L.set q (.rr X w0 e Ev v us' (ls.set i.toNat (at_ [] ls j)) ex B))→R undef w'):Yd P ρ N ⟨d,.store T x y,ty,ps,af,g⟩ t w R:=by
 have hi:=H.Gt q hq
 obtain⟨pp,old,q1,q3,q4,q6,q5⟩:=Vv (u:=at_ hz us j) (ex':=ex) hi h0 h1 (fun _ hb=>hb) hi.2.2.2.2 (Tq hi h2 h3).2.2 fun _ hp=> .inl hp
 rw[q1]at hx
 exact Ec hT hx (by rw[hy];rfl) rfl q3 q4 (h _ _ (H.put q hq (.set _ _ _ (.inl q6)) q5 fun b hb=> .inl hb))
theorem VT{p:Option Addr}{n c:Nat}{l:List α}{i:Int}{ex':List (Value×List α)}(hT:Sz P T 1)(H:St X w0 w L)(q q2:Nat)(hq:L[q]? =some (.rr X w0 e Ev v us ls ex B))(hs:L[q2]? =some (.own e Er (.slice p n c) l))(hne:(q==q2)=false)(h0:0≤i)(h1:i<ls.length)(hx:ev t x= .pointer (eo v (i.toNat*1)))(hy:ev t y= .slice p n c)(hex:∀z∈ex',z∈ex∨z=(.slice p n c,l))(h:∀us' B' w',St X w0 w' ((L.set q (.rr X w0 e Ev v us' (ls.set i.toNat l) ex' B')).set q2 .gQ)→R undef w'):Yd P ρ N ⟨d,.store T x y,ty,ps,af,g⟩ t w R:=by
 have hi:=H.Gt q hq
 have hl:=H.Gt q2 hs
 have hap:=H.apart q q2 aam hq hs
 have hB':∀b∈(Value.slice p n c).ownBlock.toList++B,v.ownBlock≠some b∧b<w.heap.size:=fun b hb=>by
  rcases dO.1 hb with hb|hb
  ·have hb':(Value.slice p n c).ownBlock=some b:=NQ
   exact⟨fun e0=>hap b (.inl e0) hb',(Rs.own e Er (.slice p n c) l).bd w hl b hb'⟩
  exact hi.2.2.2.2 b hb
 obtain⟨pp,old,q1,q3,q4,q6,q5⟩:=Vv (u:=((p,n,c):Sv)) (ex':=ex') (B':=(Value.slice p n c).ownBlock.toList++B) hi h0 h1 (fun _ hb=>Gx _ hb) hB'
  (.inl ((ao hl).mono fun b hb=>FC _ (by have hb':(Value.slice p n c).ownBlock=some b:=hb;simpa using hb'))) hex
 rw[q1]at hx
 refine Ec hT hx (by rw[hy];rfl) rfl q3 q4 (h _ _ _ (H.EG q q2 hq hs hne (.set _ _ _ (.inl q6)) q5 fun b hb=>?_))
 rcases hb with hb|hb
 ·exact .inl (.inl hb)
 rcases dO.1 hb with hb|hb
 ·exact .inr (.inl (by have hb':(Value.slice p n c).ownBlock=some b:=NQ;exact hb'))
 exact .inl (.inr hb)
theorem YI{p:Option Addr}{n c:Nat}{l:List α}{i:Int}(hT:Sz P T 1)(H:St X w0 w L)(q q2:Nat)(hq:L[q]? =some (.rr X w0 e Ev v us ls ex B))(hs:L[q2]? =some (.own e Er (.slice p n c) l))(hne:(q==q2)=false)(h0:0≤i)(h1:i<ls.length)(hx:ev t x= .pointer (eo v (i.toNat*1)))(hy:ev t y= .slice p n c)(h:∀us' B' w',St X w0 w' ((L.set q (.rr X w0 e Ev v us' (ls.set i.toNat l) ex B')).set q2 .gQ)→R undef w'):Yd P ρ N ⟨d,.store T x y,ty,ps,af,g⟩ t w R:=
 VT hT H q q2 hq hs hne h0 h1 hx hy (fun _ hz=> .inl hz) h
theorem YJ{p:Option Addr}{n c:Nat}{l:List α}{i:Int}(hT:Sz P T 1)(H:St X w0 w L)(q q2:Nat)(hq:L[q]? =some (.rr X w0 e Ev v us ls ex B))(hs:L[q2]? =some (.own e Er (.slice p n c) l))(hne:(q==q2)=false)(h0:0≤i)(h1:i<ls.length)(hx:ev t x= .pointer (eo v (i.toNat*1)))(hy:ev t y= .slice p n c)(h:∀us' B' w',St X w0 w' ((L.set q (.rr X w0 e Ev v us' (ls.set i.toNat l) [(.slice p n c,l)] B')).set q2 .gQ)→R undef w'):Yd P ρ N ⟨d,.store T x y,ty,ps,af,g⟩ t w R:=
 VT hT H q q2 hq hs hne h0 h1 hx hy (fun _ hz=> .inr (Q_.1 hz)) h
end
end Go.Proofs.YtmhkpafkadijgaaGreatDoor.Gw
