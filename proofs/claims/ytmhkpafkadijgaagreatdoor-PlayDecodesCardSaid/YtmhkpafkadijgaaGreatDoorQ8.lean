/- A part of the proof of Rows.PlayDecodesCardSaid; the conditions are that card's own. -/
import Derived.Test.YtmhkpafkadijgaaGreatDoorQ6
set_option linter.all false
set_option maxRecDepth 100000
namespace Go.Proofs.YtmhkpafkadijgaaGreatDoor.Gw
open Go Go.RowKit
def kr:List Nat:=(List.range 254).foldl (fun l _=>l++[x2 (l.getLastD 0)]) [1]
theorem I5{a:Nat}(ha:a<256):br a 2=x2 a:=by
 have:br a (x2 1)=x2 (br a 1):=Au ha f_
 rw[mA]at this;exact this
theorem I8(n:Nat):bD 2 (n+1)=x2 (bD 2 n):=I5 (iP f_ n)
theorem vE:∀n,n<255→bD 2 n=kr.getD n 0:=by
 have h:(List.range 255).all (fun n=>Nat.beq (rD.getD (kr.getD n 0) 0) n&&Nat.beq (kr.getD (n+1) 1) (x2 (kr.getD n 0)))=true:=R_
 intro n
 induction n with
 |zero=>intro _;show 1=kr.getD 0 0;decide+kernel
 |succ n ih=>
  intro hn
  have h3:=Y_.1 h n (φ.2 a_)
  rw[S_]at h3
  have h4:=eF h3.2
  have h5:kr.getD (n+1) 1=kr.getD (n+1) 0:=by
   have hl:kr.length=255:=R_
   rw[bF,bF,C_ (by rw[hl];exact hn)];rfl
  rw[I8,ih a_,←h5];exact h4.symm
theorem KQ{n:Nat}(hn:n<255):fe (bD 2 n)=n:=by
 have h:(List.range 255).all (fun n=>Nat.beq (rD.getD (kr.getD n 0) 0) n)=true:=R_
 rw[vE n hn]
 exact eF (Y_.1 h n (φ.2 hn))
theorem nW{b:Nat}(hb:b<256)(h0:b≠0):bD 2 (fe b)=b∧fe b<255:=by
 have h2:fB (fun b=>Nat.beq b 0||(Nat.blt (rD.getD b 0) 255&&Nat.beq (kr.getD (rD.getD b 0) 0) b))=true:=R_
 have h6:=fM h2 hb
 rw[KZ,S_]at h6
 rcases h6 with h6|⟨h6,h7⟩
 ·exact absurd (eF h6) h0
 have h8:fe b<255:=by unfold fe;simpa [PR] using h6
 exact⟨by rw[vE _ h8];exact eF h7,h8⟩
theorem I9{n:Nat}:bD 2 n≠0:=by
 intro h
 have h1:bD 2 (n%255)=0:=by rw[nP f_ f_];exact h
 have h2:(List.range 255).all (fun n=>!(Nat.beq (kr.getD n 0) 0))=true:=R_
 have h3:=Y_.1 h2 (n%255) (φ.2 (ZE _ f_))
 rw[vE _ (ZE _ f_)]at h1
 rw[h1]at h3;cases h3
def lH(n j:Nat):Int:=
 if j<510 then(if j%255<n then((bD 2 (j%255):Nat):Int)else 0)
 else(if j-510≠0∧fe (j-510)<n then((fe (j-510):Nat):Int)else 0)
theorem KB:(List.range 766).map (lH 255)=eV++gM:=by
 apply Fq (by simp[eV,gM])
 intro j h1 h2
 have hj:j<766:=LX
 rw[Fj,FN]
 by_cases h:j<510
 ·rw[List.getElem_append_left (by simp[eV];exact h)]
  simp only[eV,Fj,FN,lH,M_ h,M_ (ZE j (by decide:0<255))]
  rw[nP f_ f_]
 rw[abk (by simp[eV];omega)]
 simp only[gM,eV,Fj,FN,lH,I_ h,x_,yC]
 by_cases h0:j-510=0
 ·rw[h0];simp;decide+kernel
 rw[M_ ⟨h0,(nW a_ h0).2⟩]
theorem KD{n:Nat}(hn:n<255):(((((List.range 766).map (lH n)).set (0+n) ((bD 2 n:Nat):Int)).set (0+(n+255)) ((bD 2 n:Nat):Int)).set (510+bD 2 n) (n:Int))=(List.range 766).map (lH (n+1)):=by
 have hb:=iP (a:=2) f_ n
 have hne:=I9 (n:=n)
 apply Fq j_
 intro j h1 h2
 have hj:j<766:=by simpa using h2
 rw[Fj,FN]
 simp only[LV,Fj,FN]
 unfold lH
 by_cases h:j<510
 ·rw[I_ a_]
  simp only[M_ h]
  by_cases e1:j%255=n
  ·rw[M_ (by omega:j%255<n+1),e1]
   by_cases e2:0+(n+255)=j
   ·rw[M_ e2]
   rw[I_ e2,M_ a_]
  rw[I_ a_,I_ a_]
  by_cases e3:j%255<n
  ·rw[M_ e3,M_ a_]
  rw[I_ e3,I_ a_]
 simp only[I_ h]
 by_cases e:510+bD 2 n=j
 ·rw[M_ e]
  have e1:j-510=bD 2 n:=a_
  rw[e1,KQ hn,M_ ⟨hne,a_⟩]
 rw[I_ e,I_ a_,I_ a_]
 by_cases h0:j-510=0
 ·rw[I_ a_,I_ a_]
 obtain⟨e1,l1⟩:=nW (b:=j-510) a_ h0
 have hx:fe (j-510)≠n:=fun hx=>e (by rw[←hx,e1];omega)
 by_cases e3:fe (j-510)<n
 ·rw[M_ ⟨h0,e3⟩,M_ ⟨h0,a_⟩]
 rw[I_ (fun hh=>e3 hh.2),I_ (fun hh=>e3 (by have:=hh.2;omega))]
theorem Bg:∀(d n k:Nat),n+d=255→70000+d<k→fX.l0 k ((List.range 766).map (lH n)) ((bD 2 n:Nat):Int) (n:Int)=some (eV++gM)
 |d,_,0,_,h=>a_
 |0,n,k+1,hn,hk=>by
  obtain rfl:n=255:=a_
  rw[fX.l0,aQ a_,KB];rfl
 |d+1,n,k+1,hn,hk=>by
  have hb:=iP (a:=2) f_ n
  have e1:IntKind.i64.wrap ((n:Int)+255)=((n+255:Nat):Int):=by rw[ca a_ a_];omega
  rw[fX.l0,bh a_,aF a_,e1,aF a_,aF a_,show(2:Int)=((2:Nat):Int) from rfl,rY hb f_ a_,aJ,lY a_ a_,bT a_]
  simp only[n_]
  rw[KD a_]
  exact Bg d (n+1) k a_ a_
theorem KC{k:Nat}(hk:80000<k):fX.f k=some (eV++gM):=by
 unfold fX.f
 have e:List.replicate 766 (0:Int)=(List.range 766).map (lH 0):=by
  apply Fq j_
  intro j h1 h2
  rw[Ot,Fj]
  unfold lH;split
  ·rw[I_ a_]
  rw[I_ a_]
 rw[e]
 exact Bg 255 0 k a_ a_
theorem vN(a b c d:Value)(l:List Value):(([a,b,c,d]:List Value)++l).toArray[0]? =some a:=j_
theorem AO(a b c d:Value)(l:List Value):(([a,b,c,d]:List Value)++l).toArray[1]? =some b:=j_
theorem PC(a b c d x:Value)(l:List Value):(([a,b,c,d]:List Value)++l).toArray.setIfInBounds 0 x=(([x,b,c,d]:List Value)++l).toArray:=j_
theorem Di(a b c d x:Value)(l:List Value):(([a,b,c,d]:List Value)++l).toArray.setIfInBounds 1 x=(([a,x,c,d]:List Value)++l).toArray:=j_
theorem xK:r9 false=([.int .u32 0,.int .i32 0,.int .u32 0,.int .i32 0]:List Value)++(List.replicate 766 (0:Int)).map (Value.int .u8):=by
 rw[List.map_replicate];rfl
theorem Du:r9 true=([.int .u32 1,.int .i32 0,.int .u32 0,.int .i32 1]:List Value)++(eV++gM).map (Value.int .u8):=rfl
variable[de]
theorem Qg{t:Nat}{w:World}(h:(Rs.cn t false).inv w):St (Rs.cn t true).fp (w.setCell ⟨t,1,none⟩ (.int .i32 1)) (w.setCell ⟨t,1,none⟩ (.int .i32 1)) [.blk t (([.int .u32 0,.int .i32 1,.int .u32 0,.int .i32 0]:List Value)++(List.replicate 766 (0:Int)).map (Value.int .u8)).toArray 278,.gt]:=by
 obtain⟨hg,h1,hb⟩:=h
 have hb':=ll (o:=1) (.int .i32 1) hb
 have hg':Rs.gt.inv (w.setCell ⟨t,1,none⟩ (.int .i32 1)):=Rs.gt.loc w _ (fun b e=>by
  have e':b=3:=e
  exact Below.heap_setCell w _ _ b (fun x=>h1 (x.symm.trans e'))) hg
 refine⟨.refl _ _,?_,?_,?_⟩
 ·intro r hr
  rcases X_.1 hr with rfl|hr
  ·rw[xK,Di]at hb';exact hb'
  rw[Q_.1 hr];exact hg'
 ·intro r hr b hbf
  rcases X_.1 hr with rfl|hr
  ·exact .inr (.inl hbf)
  rw[Q_.1 hr]at hbf;exact .inr (.inr hbf)
 refine Ξ.2 ⟨fun s hs b x y=>?_,Dc _ _⟩
 rw[Q_.1 hs]at y
 have x':b=t:=x
 have y':b=3:=y
 exact h1 (x'.symm.trans y')
theorem Qe{t:Nat}{m:Bool}{w:World}(h:(Rs.cn t m).inv w):Calls Tryz.prog 162 #[.pointer (some ⟨t,0,none⟩),.func (.func 406) #[.pointer (some ⟨t,0,none⟩)] #[]] w fun e w'=>e= .returned (.tuple #[])∧(Rs.cn t true).inv w'∧Ch (Rs.cn t m).fp w w':=by
 cases m with
 |true=>
  refine(BW ⟨t,0,none⟩ 1 f_ _ w (ak h.2.2 (by rw[Du];exact vN _ _ _ _ _))).mono ?_
  rintro e w' ⟨rfl,rfl⟩
  exact⟨rfl,h,.refl _ _⟩
 |false=>
  obtain⟨hg,h1,hb⟩:=id h
  have hlt:t<w.heap.size:=(Rs.blk t _ _).bd w hb t rfl
  let w1:=w.setCell ⟨t,1,none⟩ (.int .i32 1)
  have hm:=fX.calls (k:=100000) (Qg h) (KC f_)
  refine(MU t 0 (.pointer (some ⟨t,0,none⟩)) w (fun w2=>St (Rs.cn t true).fp w1 w2 [.blk t (([.int .u32 0,.int .i32 1,.int .u32 0,.int .i32 1]:List Value)++(eV++gM).map (Value.int .u8)).toArray 278,.gt])
   (ak hb (by rw[xK];exact vN _ _ _ _ _)) (ak hb (by rw[xK];exact AO _ _ _ _ _)) (dR hb) (dR hb) (hm.mono fun e w2 ⟨e1,K⟩=>⟨e1,K⟩) (fun w2 K=>?_)).mono ?_
  ·have hb2:=K.Gt 0 rfl
   exact⟨ak hb2 (vN _ _ _ _ _),ak hb2 (AO _ _ _ _ _),dR hb2,dR hb2⟩
  rintro e w' ⟨rfl,w2,K,rfl⟩
  have hb2:=K.Gt 0 rfl
  have hg2:=K.Gt 1 rfl
  have hb3:(Rs.blk t _ _).inv w2.drew:=hb2
  have hb4:=ll (o:=0) (.int .u32 1) hb3
  rw[PC]at hb4
  have hb5:=ll (o:=1) (.int .i32 0) hb4
  rw[Di,←Du]at hb5
  refine⟨rfl,⟨?_,h1,?_⟩,?_⟩
  ·refine Rs.gt.loc w2 _ (fun b e=>?_) hg2
   have e':b=3:=e
   rw[Below.heap_setCell _ _ _ b (fun x=>h1 (x.symm.trans e')),Below.heap_setCell _ _ _ b (fun x=>h1 (x.symm.trans e'))];rfl
  ·exact hb5
  have c1:Ch (Rs.cn t false).fp w w1:= .set w _ _ (.inl rfl)
  have c2:Ch (Rs.cn t false).fp w1 w2:=K.ch
  exact((c1.trans c2).trans (.drew _ _)).trans ((Ch.set _ _ _ (.inl rfl)).trans (.set _ _ _ (.inl rfl)))
theorem MO:Fa Tryz.prog 278 0 0:=⟨_,_,Tryz.underlying278,rfl,rfl,2,d_⟩
theorem MP:Fa Tryz.prog 278 2 4:=⟨_,_,Tryz.underlying278,rfl,rfl,765,d_⟩
theorem MN:En Tryz.prog 162:=⟨_,_,Tryz.func162,d_,rfl⟩
theorem xL.calls{w0:World}{t0_:Nat}{m0_:Bool}(hf:(Rs.cn t0_ m0_).inv w0):Calls Tryz.prog 409 #[.pointer (some ⟨t0_,0,none⟩)] w0 fun e w'=>e= .returned (.pointer (some ⟨t0_,4,none⟩))∧St (Rs.cn t0_ m0_).fp w0 w' [.cn t0_ true]:=by
 have H:=St.start hf
 refine aP (N:=12) (args:=[.pointer (some ⟨t0_,0,none⟩)]) Tryz.func409 rfl rfl j_ ?_
 refine rg (v_ rfl (sg (.pointer none) rfl) (nl (rg (v_ rfl (mv (.pointer (some ⟨t0_,0,none⟩)) rfl) (v_ rfl (bw rfl) (v_ rfl (az MO rfl) (v_ rfl (mv (.pointer (some ⟨t0_,0,none⟩)) rfl) (v_ rfl (gw [.pointer (some ⟨t0_,0,none⟩)] [] rfl rfl) (e_ rfl (au MN rfl ((Qe (H.Gt 0 rfl)).mono ?_)))))))))))
 rintro _ w ⟨rfl,K1,K2⟩
 have H:=H.put 0 rfl K2 K1 (fun _ hb=> .inl hb)
 refine⟨_,rfl,?_⟩
 refine nl (rg (v_ rfl (mv (.pointer (some ⟨t0_,0,none⟩)) rfl) (v_ rfl (bw rfl) (v_ rfl (az MP rfl) (v_ rfl (sg (.pointer (some ⟨t0_,0+4,none⟩)) rfl) (nl (aj ?_)))))))
 exact⟨.inl rfl,_,tk0 rfl ⟨aB rfl (ad ai),rfl,H⟩⟩
end Go.Proofs.YtmhkpafkadijgaaGreatDoor.Gw
