/- A part of the proof of Rows.PlayAskedCardSaid; the conditions are that card's own. -/
import Derived.Test.YtmhkpafkadijgaaGreatDoorQ22
set_option linter.all false
set_option maxRecDepth 100000
set_option maxHeartbeats 4000000
namespace Go.Proofs.YtmhkpafkadijgaaGreatDoor.Gw
open Go Go.RowKit
theorem Gr:∀{l:List Int},l.length=16→∃a0 a1 a2 a3 a4 a5 a6 a7 a8 a9 a10 a11 a12 a13 a14 a15,l=[a0,a1,a2,a3,a4,a5,a6,a7,a8,a9,a10,a11,a12,a13,a14,a15]
 | [a0,a1,a2,a3,a4,a5,a6,a7,a8,a9,a10,a11,a12,a13,a14,a15],_=>⟨a0,a1,a2,a3,a4,a5,a6,a7,a8,a9,a10,a11,a12,a13,a14,a15,rfl⟩
variable[de]
theorem nN(f:FD){w:World}(h:(Rs.ah f).inv w):∀x,(x=f.p∨x=f.t)→x<w.heap.size:=fun x hx=>(Rs.ah f).bd w h x (hx.imp id .inl)
theorem jL{b:Nat}{n:List Int}{d:DS}{w w':World}(h:(Rs.gd b d n).inv w)(hc:Ch (fun x=>x=b) w w')(hb:w'.heap[b]? =w.heap[b]?):(Rs.gd b d n).inv w':=
 (Rs.gd b d n).loc w w' (fun x hx=>by
  by_cases e:x=b
  ·rw[e];exact hb
  ·exact hc.block x ((Rs.gd b d n).bd w h x hx) e) h
theorem iA{b:Nat}{n n':List Int}{d d':DS}{w w':World}(hc:Ch (fun x=>x=b) w w')(hi:(Rs.gd b d' n').inv w')(hf:∀x,d'.own x→w.heap.size≤x∨d.own x):St (Rs.gd b d n).fp w w' [.gd b d' n']:=by
 refine⟨hc.mono fun x _ e=> .inl e,by simpa using hi,?_,List.pairwise_singleton _ _⟩
 intro r hr x hx
 rw[List.mem_singleton.1 hr]at hx
 rcases hx with e|e|e
 ·exact .inr (.inl e)
 ·exact .inr (.inr (.inl e))
 ·exact(hf x e).imp id fun e=> .inr (.inr e)
theorem te{b b3 b4:Nat}{g2 g3:Option FD}{cnt:List Int}{w w':World}(h:(Rs.gd b ⟨none,g2,g3⟩ cnt).inv w)(hn:cnt.length=16)(K:St (fun x=>x=b) w w' [.blk b (jg ⟨some ⟨b4,1,b3⟩,g2,g3⟩ cnt).toArray 121,.blk b3 kY.toArray 278,.blk b4 (nI ⟨b4,1,b3⟩) 186]):St (Rs.gd b ⟨none,g2,g3⟩ cnt).fp w w' [.gd b ⟨some ⟨b4,1,b3⟩,g2,g3⟩ cnt]:=by
 have hlt:=(Rs.gd b ⟨none,g2,g3⟩ cnt).bd w h
 obtain⟨h1,h2,h3,h4,h5,h6⟩:=id h
 have hgl:3<w.heap.size:=Rs.gt.bd w h1 3 rfl
 have hbl:b<w.heap.size:=hlt b (.inl rfl)
 have nb3:w.heap.size≤b3:=(K.fp _ (List.getElem_mem (n:=1) (by simp)) b3 rfl).resolve_right fun e=>by
  have:=K.apart 0 1 (by decide) rfl rfl b rfl
  have e':b3=b:=e
  exact this e'.symm
 have nb4:w.heap.size≤b4:=(K.fp _ (List.getElem_mem (n:=2) (by simp)) b4 rfl).resolve_right fun e=>by
  have:=K.apart 0 2 (by decide) rfl rfl b rfl
  have e':b4=b:=e
  exact this e'.symm
 have e34:¬b4=b3:=fun e=>K.apart 1 2 (by decide) rfl rfl b3 rfl e.symm
 have hg':Rs.gt.inv w':=Rs.keep h1 K.ch fun x e e'=>h2 (e'.symm.trans e)
 have hk:∀x,x<w.heap.size→¬x=b→w'.heap[x]? =w.heap[x]? :=fun x hx e=>K.ch.block x hx e
 have hm:∀j f,(DS.g ⟨some ⟨b4,1,b3⟩,g2,g3⟩) j=some f→(j=1∧f=⟨b4,1,b3⟩)∨(¬j=1∧(DS.g ⟨none,g2,g3⟩) j=some f):=by
  intro j f e
  by_cases hj:j=1
  ·subst hj;exact .inl ⟨rfl,(Option.some.inj e).symm⟩
  ·refine .inr ⟨hj,?_⟩
   match j,hj,e with
   |0,_,e=>cases e
   |1,hj,e=>exact absurd rfl hj
   |2,hj,e=>exact e
   |3,hj,e=>exact e
   |_+4,_,e=>cases e
 have nb:∀x,(x=(⟨b4,1,b3⟩:FD).p∨x=(⟨b4,1,b3⟩:FD).t)→w.heap.size≤x:=fun x hx=>by
  rcases hx with e|e<;>(simp only at e;omega)
 have ob:∀j f x,(DS.g ⟨none,g2,g3⟩) j=some f→(x=f.p∨x=f.t)→x<w.heap.size:=fun j f x e hx=>nN f (h5 j f e).2 x hx
 refine iA K.ch ⟨hg',h2,⟨hn,K.Gt 0 rfl⟩,?_,?_,?_⟩ ?_
 ·rintro⟨j,f,e,hx⟩
  rcases hm j f e with⟨_,rfl⟩|⟨_,e⟩
  ·have:=nb b hx;omega
  ·exact h4 ⟨j,f,e,hx⟩
 ·intro j f e
  rcases hm j f e with⟨rfl,rfl⟩|⟨_,e⟩
  ·exact⟨rfl,hg',(fun e=>by have e':b4=3:=e;omega),.inl ⟨rfl,K.Gt 2 rfl,e34,false,hg',(fun e=>by have e':b3=3:=e;omega),K.Gt 1 rfl⟩⟩
  ·obtain⟨k1,k2⟩:=h5 j f e
   exact⟨k1,nO k2 hg' fun x hx=>hk x (nN f k2 x hx) fun e'=>h4 ⟨j,f,e,e'▸hx⟩⟩
 ·intro j j' f f' e e' hj x hx hy
  rcases hm j f e with⟨rfl,rfl⟩|⟨_,e⟩
  ·rcases hm j' f' e' with⟨rfl,_⟩|⟨_,e'⟩
   ·exact hj rfl
   ·have:=nb x hx;have:=ob j' f' x e' hy;omega
  ·rcases hm j' f' e' with⟨rfl,rfl⟩|⟨_,e'⟩
   ·have:=nb x hy;have:=ob j f x e hx;omega
   ·exact h6 j j' f f' e e' hj x hx hy
 ·rintro x ⟨j,f,e,hx⟩
  rcases hm j f e with⟨_,rfl⟩|⟨_,e⟩
  ·exact .inl (nb x hx)
  ·exact .inr ⟨j,f,e,hx⟩
theorem tg{b b3:Nat}{g1 g3:Option FD}{cnt:List Int}{w w':World}(h:(Rs.gd b ⟨g1,none,g3⟩ cnt).inv w)(hn:cnt.length=16)(K:St (fun x=>x=b) w w' [.blk b (jg ⟨g1,some ⟨b3,2,b3⟩,g3⟩ cnt).toArray 121,.blk b3 jI 186]):St (Rs.gd b ⟨g1,none,g3⟩ cnt).fp w w' [.gd b ⟨g1,some ⟨b3,2,b3⟩,g3⟩ cnt]:=by
 have hlt:=(Rs.gd b ⟨g1,none,g3⟩ cnt).bd w h
 obtain⟨h1,h2,h3,h4,h5,h6⟩:=id h
 have hgl:3<w.heap.size:=Rs.gt.bd w h1 3 rfl
 have hbl:b<w.heap.size:=hlt b (.inl rfl)
 have nb3:w.heap.size≤b3:=(K.fp _ (List.getElem_mem (n:=1) (by simp)) b3 rfl).resolve_right fun e=>by
  have:=K.apart 0 1 (by decide) rfl rfl b rfl
  have e':b3=b:=e
  exact this e'.symm
 have hg':Rs.gt.inv w':=Rs.keep h1 K.ch fun x e e'=>h2 (e'.symm.trans e)
 have hk:∀x,x<w.heap.size→¬x=b→w'.heap[x]? =w.heap[x]? :=fun x hx e=>K.ch.block x hx e
 have hm:∀j f,(DS.g ⟨g1,some ⟨b3,2,b3⟩,g3⟩) j=some f→(j=2∧f=⟨b3,2,b3⟩)∨(¬j=2∧(DS.g ⟨g1,none,g3⟩) j=some f):=by
  intro j f e
  by_cases hj:j=2
  ·subst hj;exact .inl ⟨rfl,(Option.some.inj e).symm⟩
  ·refine .inr ⟨hj,?_⟩
   match j,hj,e with
   |0,_,e=>cases e
   |1,hj,e=>exact e
   |2,hj,e=>exact absurd rfl hj
   |3,hj,e=>exact e
   |_+4,_,e=>cases e
 have nb:∀x,(x=(⟨b3,2,b3⟩:FD).p∨x=(⟨b3,2,b3⟩:FD).t)→w.heap.size≤x:=fun x hx=>by
  rcases hx with e|e<;>(simp only at e;omega)
 have ob:∀j f x,(DS.g ⟨g1,none,g3⟩) j=some f→(x=f.p∨x=f.t)→x<w.heap.size:=fun j f x e hx=>nN f (h5 j f e).2 x hx
 refine iA K.ch ⟨hg',h2,⟨hn,K.Gt 0 rfl⟩,?_,?_,?_⟩ ?_
 ·rintro⟨j,f,e,hx⟩
  rcases hm j f e with⟨_,rfl⟩|⟨_,e⟩
  ·have:=nb b hx;omega
  ·exact h4 ⟨j,f,e,hx⟩
 ·intro j f e
  rcases hm j f e with⟨rfl,rfl⟩|⟨_,e⟩
  ·exact⟨rfl,hg',(fun e=>by have e':b3=3:=e;omega),.inr (.inl ⟨rfl,K.Gt 1 rfl,rfl⟩)⟩
  ·obtain⟨k1,k2⟩:=h5 j f e
   exact⟨k1,nO k2 hg' fun x hx=>hk x (nN f k2 x hx) fun e'=>h4 ⟨j,f,e,e'▸hx⟩⟩
 ·intro j j' f f' e e' hj x hx hy
  rcases hm j f e with⟨rfl,rfl⟩|⟨_,e⟩
  ·rcases hm j' f' e' with⟨rfl,_⟩|⟨_,e'⟩
   ·exact hj rfl
   ·have:=nb x hx;have:=ob j' f' x e' hy;omega
  ·rcases hm j' f' e' with⟨rfl,rfl⟩|⟨_,e'⟩
   ·have:=nb x hy;have:=ob j f x e hx;omega
   ·exact h6 j j' f f' e e' hj x hx hy
 ·rintro x ⟨j,f,e,hx⟩
  rcases hm j f e with⟨_,rfl⟩|⟨_,e⟩
  ·exact .inl (nb x hx)
  ·exact .inr ⟨j,f,e,hx⟩
theorem th{b b3:Nat}{g1 g2:Option FD}{cnt:List Int}{w w':World}(h:(Rs.gd b ⟨g1,g2,none⟩ cnt).inv w)(hn:cnt.length=16)(K:St (fun x=>x=b) w w' [.blk b (jg ⟨g1,g2,some ⟨b3,3,b3⟩⟩ cnt).toArray 121,.blk b3 lC 186]):St (Rs.gd b ⟨g1,g2,none⟩ cnt).fp w w' [.gd b ⟨g1,g2,some ⟨b3,3,b3⟩⟩ cnt]:=by
 have hlt:=(Rs.gd b ⟨g1,g2,none⟩ cnt).bd w h
 obtain⟨h1,h2,h3,h4,h5,h6⟩:=id h
 have hgl:3<w.heap.size:=Rs.gt.bd w h1 3 rfl
 have hbl:b<w.heap.size:=hlt b (.inl rfl)
 have nb3:w.heap.size≤b3:=(K.fp _ (List.getElem_mem (n:=1) (by simp)) b3 rfl).resolve_right fun e=>by
  have:=K.apart 0 1 (by decide) rfl rfl b rfl
  have e':b3=b:=e
  exact this e'.symm
 have hg':Rs.gt.inv w':=Rs.keep h1 K.ch fun x e e'=>h2 (e'.symm.trans e)
 have hk:∀x,x<w.heap.size→¬x=b→w'.heap[x]? =w.heap[x]? :=fun x hx e=>K.ch.block x hx e
 have hm:∀j f,(DS.g ⟨g1,g2,some ⟨b3,3,b3⟩⟩) j=some f→(j=3∧f=⟨b3,3,b3⟩)∨(¬j=3∧(DS.g ⟨g1,g2,none⟩) j=some f):=by
  intro j f e
  by_cases hj:j=3
  ·subst hj;exact .inl ⟨rfl,(Option.some.inj e).symm⟩
  ·refine .inr ⟨hj,?_⟩
   match j,hj,e with
   |0,_,e=>cases e
   |1,hj,e=>exact e
   |2,hj,e=>exact e
   |3,hj,e=>exact absurd rfl hj
   |_+4,_,e=>cases e
 have nb:∀x,(x=(⟨b3,3,b3⟩:FD).p∨x=(⟨b3,3,b3⟩:FD).t)→w.heap.size≤x:=fun x hx=>by
  rcases hx with e|e<;>(simp only at e;omega)
 have ob:∀j f x,(DS.g ⟨g1,g2,none⟩) j=some f→(x=f.p∨x=f.t)→x<w.heap.size:=fun j f x e hx=>nN f (h5 j f e).2 x hx
 refine iA K.ch ⟨hg',h2,⟨hn,K.Gt 0 rfl⟩,?_,?_,?_⟩ ?_
 ·rintro⟨j,f,e,hx⟩
  rcases hm j f e with⟨_,rfl⟩|⟨_,e⟩
  ·have:=nb b hx;omega
  ·exact h4 ⟨j,f,e,hx⟩
 ·intro j f e
  rcases hm j f e with⟨rfl,rfl⟩|⟨_,e⟩
  ·exact⟨rfl,hg',(fun e=>by have e':b3=3:=e;omega),.inr (.inr ⟨rfl,K.Gt 1 rfl,rfl⟩)⟩
  ·obtain⟨k1,k2⟩:=h5 j f e
   exact⟨k1,nO k2 hg' fun x hx=>hk x (nN f k2 x hx) fun e'=>h4 ⟨j,f,e,e'▸hx⟩⟩
 ·intro j j' f f' e e' hj x hx hy
  rcases hm j f e with⟨rfl,rfl⟩|⟨_,e⟩
  ·rcases hm j' f' e' with⟨rfl,_⟩|⟨_,e'⟩
   ·exact hj rfl
   ·have:=nb x hx;have:=ob j' f' x e' hy;omega
  ·rcases hm j' f' e' with⟨rfl,rfl⟩|⟨_,e'⟩
   ·have:=nb x hy;have:=ob j f x e hx;omega
   ·exact h6 j j' f f' e e' hj x hx hy
 ·rintro x ⟨j,f,e,hx⟩
  rcases hm j f e with⟨_,rfl⟩|⟨_,e⟩
  ·exact .inl (nb x hx)
  ·exact .inr ⟨j,f,e,hx⟩
theorem MM{b:Nat}{n:List Int}{d:DS}{i:Int}{w:World}(hi:i=1∨i=2∨i=3)(h:(Rs.gd b d n).inv w):Calls Tryz.prog 104 #[.pointer (some ⟨b,0+i.toNat*5,none⟩),.int .i64 i] w fun e w'=>∃f d',e= .returned (.pointer (some ⟨f.p,0,none⟩))∧d'.has f∧St (Rs.gd b d n).fp w w' [.gd b d' n]:=by
 obtain⟨f1,f2,f3⟩:=d
 obtain⟨hn,hb⟩:=id h.2.2.1
 obtain⟨a0,a1,a2,a3,a4,a5,a6,a7,a8,a9,a10,a11,a12,a13,a14,a15,rfl⟩:=Gr hn
 rcases hi with rfl|rfl|rfl
 ·cases f1 with
  |none=>
   cases f2<;>cases f3
   ·refine(tR hb).mono ?_
    rintro e w' ⟨b3,b4,rfl,K⟩
    exact⟨⟨b4,1,b3⟩,⟨some ⟨b4,1,b3⟩,_,_⟩,rfl,⟨1,rfl⟩,te (cnt:=[a0,a1,a2,a3,a4,a5,a6,a7,a8,a9,a10,a11,a12,a13,a14,a15]) h rfl K⟩
   ·refine(tR hb).mono ?_
    rintro e w' ⟨b3,b4,rfl,K⟩
    exact⟨⟨b4,1,b3⟩,⟨some ⟨b4,1,b3⟩,_,_⟩,rfl,⟨1,rfl⟩,te (cnt:=[a0,a1,a2,a3,a4,a5,a6,a7,a8,a9,a10,a11,a12,a13,a14,a15]) h rfl K⟩
   ·refine(tR hb).mono ?_
    rintro e w' ⟨b3,b4,rfl,K⟩
    exact⟨⟨b4,1,b3⟩,⟨some ⟨b4,1,b3⟩,_,_⟩,rfl,⟨1,rfl⟩,te (cnt:=[a0,a1,a2,a3,a4,a5,a6,a7,a8,a9,a10,a11,a12,a13,a14,a15]) h rfl K⟩
   ·refine(tR hb).mono ?_
    rintro e w' ⟨b3,b4,rfl,K⟩
    exact⟨⟨b4,1,b3⟩,⟨some ⟨b4,1,b3⟩,_,_⟩,rfl,⟨1,rfl⟩,te (cnt:=[a0,a1,a2,a3,a4,a5,a6,a7,a8,a9,a10,a11,a12,a13,a14,a15]) h rfl K⟩
  |some f=>
   cases f2<;>cases f3
   ·refine(tS hb).mono ?_
    rintro e w' ⟨rfl,K⟩
    exact⟨f,_,rfl,⟨1,rfl⟩,iA K.ch (jL h K.ch ((K.Gt 0 rfl).trans hb.symm)) fun x e=> .inr e⟩
   ·refine(tS hb).mono ?_
    rintro e w' ⟨rfl,K⟩
    exact⟨f,_,rfl,⟨1,rfl⟩,iA K.ch (jL h K.ch ((K.Gt 0 rfl).trans hb.symm)) fun x e=> .inr e⟩
   ·refine(tS hb).mono ?_
    rintro e w' ⟨rfl,K⟩
    exact⟨f,_,rfl,⟨1,rfl⟩,iA K.ch (jL h K.ch ((K.Gt 0 rfl).trans hb.symm)) fun x e=> .inr e⟩
   ·refine(tS hb).mono ?_
    rintro e w' ⟨rfl,K⟩
    exact⟨f,_,rfl,⟨1,rfl⟩,iA K.ch (jL h K.ch ((K.Gt 0 rfl).trans hb.symm)) fun x e=> .inr e⟩
 ·cases f2 with
  |none=>
   cases f1<;>cases f3
   ·refine(tT hb).mono ?_
    rintro e w' ⟨b3,rfl,K⟩
    exact⟨⟨b3,2,b3⟩,⟨_,some ⟨b3,2,b3⟩,_⟩,rfl,⟨2,rfl⟩,tg (cnt:=[a0,a1,a2,a3,a4,a5,a6,a7,a8,a9,a10,a11,a12,a13,a14,a15]) h rfl K⟩
   ·refine(tT hb).mono ?_
    rintro e w' ⟨b3,rfl,K⟩
    exact⟨⟨b3,2,b3⟩,⟨_,some ⟨b3,2,b3⟩,_⟩,rfl,⟨2,rfl⟩,tg (cnt:=[a0,a1,a2,a3,a4,a5,a6,a7,a8,a9,a10,a11,a12,a13,a14,a15]) h rfl K⟩
   ·refine(tT hb).mono ?_
    rintro e w' ⟨b3,rfl,K⟩
    exact⟨⟨b3,2,b3⟩,⟨_,some ⟨b3,2,b3⟩,_⟩,rfl,⟨2,rfl⟩,tg (cnt:=[a0,a1,a2,a3,a4,a5,a6,a7,a8,a9,a10,a11,a12,a13,a14,a15]) h rfl K⟩
   ·refine(tT hb).mono ?_
    rintro e w' ⟨b3,rfl,K⟩
    exact⟨⟨b3,2,b3⟩,⟨_,some ⟨b3,2,b3⟩,_⟩,rfl,⟨2,rfl⟩,tg (cnt:=[a0,a1,a2,a3,a4,a5,a6,a7,a8,a9,a10,a11,a12,a13,a14,a15]) h rfl K⟩
  |some f=>
   cases f1<;>cases f3
   ·refine(tU hb).mono ?_
    rintro e w' ⟨rfl,K⟩
    exact⟨f,_,rfl,⟨2,rfl⟩,iA K.ch (jL h K.ch ((K.Gt 0 rfl).trans hb.symm)) fun x e=> .inr e⟩
   ·refine(tU hb).mono ?_
    rintro e w' ⟨rfl,K⟩
    exact⟨f,_,rfl,⟨2,rfl⟩,iA K.ch (jL h K.ch ((K.Gt 0 rfl).trans hb.symm)) fun x e=> .inr e⟩
   ·refine(tU hb).mono ?_
    rintro e w' ⟨rfl,K⟩
    exact⟨f,_,rfl,⟨2,rfl⟩,iA K.ch (jL h K.ch ((K.Gt 0 rfl).trans hb.symm)) fun x e=> .inr e⟩
   ·refine(tU hb).mono ?_
    rintro e w' ⟨rfl,K⟩
    exact⟨f,_,rfl,⟨2,rfl⟩,iA K.ch (jL h K.ch ((K.Gt 0 rfl).trans hb.symm)) fun x e=> .inr e⟩
 ·cases f3 with
  |none=>
   cases f1<;>cases f2
   ·refine(tV hb).mono ?_
    rintro e w' ⟨b3,rfl,K⟩
    exact⟨⟨b3,3,b3⟩,⟨_,_,some ⟨b3,3,b3⟩⟩,rfl,⟨3,rfl⟩,th (cnt:=[a0,a1,a2,a3,a4,a5,a6,a7,a8,a9,a10,a11,a12,a13,a14,a15]) h rfl K⟩
   ·refine(tV hb).mono ?_
    rintro e w' ⟨b3,rfl,K⟩
    exact⟨⟨b3,3,b3⟩,⟨_,_,some ⟨b3,3,b3⟩⟩,rfl,⟨3,rfl⟩,th (cnt:=[a0,a1,a2,a3,a4,a5,a6,a7,a8,a9,a10,a11,a12,a13,a14,a15]) h rfl K⟩
   ·refine(tV hb).mono ?_
    rintro e w' ⟨b3,rfl,K⟩
    exact⟨⟨b3,3,b3⟩,⟨_,_,some ⟨b3,3,b3⟩⟩,rfl,⟨3,rfl⟩,th (cnt:=[a0,a1,a2,a3,a4,a5,a6,a7,a8,a9,a10,a11,a12,a13,a14,a15]) h rfl K⟩
   ·refine(tV hb).mono ?_
    rintro e w' ⟨b3,rfl,K⟩
    exact⟨⟨b3,3,b3⟩,⟨_,_,some ⟨b3,3,b3⟩⟩,rfl,⟨3,rfl⟩,th (cnt:=[a0,a1,a2,a3,a4,a5,a6,a7,a8,a9,a10,a11,a12,a13,a14,a15]) h rfl K⟩
  |some f=>
   cases f1<;>cases f2
   ·refine(tW hb).mono ?_
    rintro e w' ⟨rfl,K⟩
    exact⟨f,_,rfl,⟨3,rfl⟩,iA K.ch (jL h K.ch ((K.Gt 0 rfl).trans hb.symm)) fun x e=> .inr e⟩
   ·refine(tW hb).mono ?_
    rintro e w' ⟨rfl,K⟩
    exact⟨f,_,rfl,⟨3,rfl⟩,iA K.ch (jL h K.ch ((K.Gt 0 rfl).trans hb.symm)) fun x e=> .inr e⟩
   ·refine(tW hb).mono ?_
    rintro e w' ⟨rfl,K⟩
    exact⟨f,_,rfl,⟨3,rfl⟩,iA K.ch (jL h K.ch ((K.Gt 0 rfl).trans hb.symm)) fun x e=> .inr e⟩
   ·refine(tW hb).mono ?_
    rintro e w' ⟨rfl,K⟩
    exact⟨f,_,rfl,⟨3,rfl⟩,iA K.ch (jL h K.ch ((K.Gt 0 rfl).trans hb.symm)) fun x e=> .inr e⟩
section
variable{ρ:Option Nat}{N:Nat}{t:Fr}{w w0:World}{X:Nat→Prop}{L:List Rs}{R:Value→World→Prop}{dd:Option Nat}{ty:TypeId}{ps:String}{af:Array Edge}{g:Option (Nat×Bool)}{x y:Operand}{ats:Array TypeId}{b:Nat}{d:DS}{n:List Int}
theorem Eb{i:Int}(H:St X w0 w L)(q:Nat)(hq:L[q]? =some (.gd b d n))(hf:En Tryz.prog 104)(hx:ev t x= .pointer (some ⟨b,0+i.toNat*5,none⟩))(hy:ev t y= .int .i64 i)(hi:i=1∨i=2∨i=3)(h:∀(f:FD)(d':DS) w',d'.has f→St X w0 w' (L.set q (.gd b d' n))→R (.pointer (some ⟨f.p,0,none⟩)) w'):Yd Tryz.prog ρ N ⟨dd,.call ⟨.value (.func 104),#[x,y],ats⟩,ty,ps,af,g⟩ t w R:=by
 refine au hf (vs:=[.pointer (some ⟨b,0+i.toNat*5,none⟩),.int .i64 i]) (by simp[hx,hy]) ((MM hi (H.Gt q hq)).mono ?_)
 rintro _ w' ⟨f,d',rfl,hd,K⟩
 have:=H.aV q hq K
 rw[List.append_nil]at this
 exact⟨_,rfl,h f d' w' hd this⟩
theorem sH(d:DS):(lx none++lx d.f1++lx d.f2++lx d.f3).length=20:=by
 have h:∀o,(lx o).length=5:=fun o=>by cases o<;>rfl
 simp[h]
theorem zb{d:DS}{l:List Int}{k:Nat}{v:Int}(h:l[k]? =some v):(jg d l).toArray[20+k]? =some (.int .i64 v):=by
 rw[List.getElem?_toArray,jg,List.getElem?_append_right (by rw[sH];omega),sH,Nat.add_sub_cancel_left,List.getElem?_map,h];rfl
theorem GA{d:DS}{l:List Int}{k:Nat}{v:Int}:(jg d l).toArray.setIfInBounds (20+k) (.int .i64 v)=(jg d (l.set k v)).toArray:=by
 rw[List.setIfInBounds_toArray,jg,List.set_append_right _ _ (by rw[sH];omega),sH,Nat.add_sub_cancel_left]
 congr 1
 rw[jg,List.map_set]
theorem EH{P:Program}(v:Int)(w:World):(Op.intArith .add .i64 v 1).run P w= .ok (.int .i64 (IntKind.i64.wrap (v+1))) w:=by simp[go_sem]
theorem MT(a:Addr)(v:Int)(w:World)(hc:w.cell? a=some (.int .i64 v))(hz:w.frozen? a=false):
 Calls Tryz.prog 107 #[.pointer (some a),.int .i64 1] w fun e w'=>e= .returned (.int .i64 (IntKind.i64.wrap (v+1)))∧w'=w.setCell a (.int .i64 (IntKind.i64.wrap (v+1))):=by
 have hs:(Op.intArith .add .i64 v 1).run Tryz.prog w= .ok (.int .i64 (IntKind.i64.wrap (v+1))) w:=EH v w
 generalize IntKind.i64.wrap (v+1)=s at hs⊢
 have hadd:=run_call_add (P:=Tryz.prog) Tryz.func168 (by kernel_rfl) (by kernel_rfl) (by kernel_rfl) .i64 (by kernel_rfl) (y:=1) (s:=s) hc hz hs
 go_enter Tryz.func107,(show Tryz.f107.ntmps=_ from rfl)
 go_wp2
 go_ret
 exact⟨rfl,rfl⟩
theorem MV(a:Addr)(v:Int)(w:World)(hc:w.cell? a=some (.int .i64 v)):
 Calls Tryz.prog 125 #[.pointer (some a)] w fun e w'=>e= .returned (.int .i64 v)∧w'=w:=by
 have hl:=run_call_load (P:=Tryz.prog) Tryz.func192 (by kernel_rfl) (by kernel_rfl) (by kernel_rfl) .i64 (by kernel_rfl) hc
 go_enter Tryz.func125,(show Tryz.f125.ntmps=_ from rfl)
 go_wp2
 go_ret
 exact⟨rfl,rfl⟩
def cW(i j:Int):Int:=4*i+j
theorem QS{i j:Int}(H:St X w0 w L)(q:Nat)(hq:L[q]? =some (.gd b d n))(hf:En Tryz.prog 107)(hx:ev t x= .pointer (some ⟨b,20+i.toNat*4+j.toNat*1,none⟩))(hy:ev t y= .int .i64 1)(hi:0≤i)(hi2:i<4)(hj:0≤j)(hj2:j<4)(h:∀w',St X w0 w' (L.set q (.gd b d (n.set (cW i j).toNat (IntKind.i64.wrap (at_ 0 n (cW i j)+1)))))→R (.int .i64 (IntKind.i64.wrap (at_ 0 n (cW i j)+1))) w'):Yd Tryz.prog ρ N ⟨dd,.call ⟨.value (.func 107),#[x,y],ats⟩,ty,ps,af,g⟩ t w R:=by
 have hg:=H.Gt q hq
 obtain⟨h1,h2,⟨h3,h3'⟩,h4,h5,h6⟩:=id hg
 have ek:20+i.toNat*4+j.toNat*1=20+(cW i j).toNat:=by unfold cW;omega
 have hv:n[(cW i j).toNat]? =some (at_ 0 n (cW i j)):=ga 0 (by unfold cW;omega) (by rw[h3];unfold cW;omega)
 rw[ek]at hx
 refine au hf (vs:=[.pointer (some ⟨b,20+(cW i j).toNat,none⟩),.int .i64 1]) (by simp[hx,hy]) ((MT ⟨b,20+(cW i j).toNat,none⟩ _ w (ak h3' (zb hv)) (dR h3')).mono ?_)
 rintro _ w' ⟨rfl,rfl⟩
 have hb:=ll (o:=20+(cW i j).toNat) (.int .i64 (IntKind.i64.wrap (at_ 0 n (cW i j)+1))) h3'
 rw[GA]at hb
 have hc:Ch (fun x=>x=b) w (w.setCell ⟨b,20+(cW i j).toNat,none⟩ (.int .i64 (IntKind.i64.wrap (at_ 0 n (cW i j)+1)))):= .set _ _ _ rfl
 refine⟨_,rfl,h _ (H.put q hq (hc.mono fun x _ e=> .inl e) ⟨Rs.keep h1 hc fun x e e'=>h2 (e'.symm.trans e),h2,⟨by simpa using h3,hb⟩,h4,fun i f hf=>⟨(h5 i f hf).1,?_⟩,h6⟩ fun x e=> .inl e)⟩
 exact nO (h5 i f hf).2 (Rs.keep h1 hc fun x e e'=>h2 (e'.symm.trans e)) fun x hx=>hc.block x (nN f (h5 i f hf).2 x hx) fun e=>h4 ⟨i,f,hf,e▸hx⟩
theorem Rc{i j:Int}(H:St X w0 w L)(q:Nat)(hq:L[q]? =some (.gd b d n))(hf:En Tryz.prog 125)(hx:ev t x= .pointer (some ⟨b,20+i.toNat*4+j.toNat*1,none⟩))(hi:0≤i)(hi2:i<4)(hj:0≤j)(hj2:j<4)(h:∀w',St X w0 w' L→R (.int .i64 (at_ 0 n (cW i j))) w'):Yd Tryz.prog ρ N ⟨dd,.call ⟨.value (.func 125),#[x],ats⟩,ty,ps,af,g⟩ t w R:=by
 obtain⟨h1,h2,⟨h3,h3'⟩,h4,h5,h6⟩:=id (H.Gt q hq)
 have ek:20+i.toNat*4+j.toNat*1=20+(cW i j).toNat:=by unfold cW;omega
 have hv:n[(cW i j).toNat]? =some (at_ 0 n (cW i j)):=ga 0 (by unfold cW;omega) (by rw[h3];unfold cW;omega)
 rw[ek]at hx
 refine au hf (vs:=[.pointer (some ⟨b,20+(cW i j).toNat,none⟩)]) (by simp[hx]) ((MV ⟨b,20+(cW i j).toNat,none⟩ _ w (ak h3' (zb hv))).mono ?_)
 rintro _ w' ⟨rfl,rfl⟩
 exact⟨_,rfl,h _ H⟩
end
end Go.Proofs.YtmhkpafkadijgaaGreatDoor.Gw
