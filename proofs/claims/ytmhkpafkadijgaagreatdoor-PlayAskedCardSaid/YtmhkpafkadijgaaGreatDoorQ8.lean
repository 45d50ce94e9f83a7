/- A part of the proof of Rows.PlayAskedCardSaid; the conditions are that card's own. -/
import Derived.Test.YtmhkpafkadijgaaGreatDoorQ6
set_option linter.all false
set_option maxRecDepth 100000
namespace Go.Proofs.YtmhkpafkadijgaaGreatDoor.Gw
open Go Go.RowKit
def kr:List Nat:=(List.range 254).foldl (fun l _=>l++[x2 (l.getLastD 0)]) [1]
theorem I5{a:Nat}(ha:a<256):br a 2=x2 a:=by
 have:br a (x2 1)=x2 (br a 1):=Au ha (by decide)
 rw[mA]at this;exact this
theorem I8(n:Nat):bD 2 (n+1)=x2 (bD 2 n):=I5 (iP (by decide) n)
theorem vE:∀n,n<255→bD 2 n=kr.getD n 0:=by
 have h:(List.range 255).all (fun n=>Nat.beq (rD.getD (kr.getD n 0) 0) n&&Nat.beq (kr.getD (n+1) 1) (x2 (kr.getD n 0)))=true:=by decide+kernel
 intro n
 induction n with
 |zero=>intro _;show 1=kr.getD 0 0;decide+kernel
 |succ n ih=>
  intro hn
  have h3:=List.all_eq_true.1 h n (List.mem_range.2 (by omega))
  rw[Bool.and_eq_true]at h3
  have h4:=Nat.eq_of_beq_eq_true h3.2
  have h5:kr.getD (n+1) 1=kr.getD (n+1) 0:=by
   have hl:kr.length=255:=by decide+kernel
   rw[bF,bF,List.getElem?_eq_getElem (by rw[hl];exact hn)];rfl
  rw[I8,ih (by omega),←h5];exact h4.symm
theorem KQ{n:Nat}(hn:n<255):fe (bD 2 n)=n:=by
 have h:(List.range 255).all (fun n=>Nat.beq (rD.getD (kr.getD n 0) 0) n)=true:=by decide+kernel
 rw[vE n hn]
 exact Nat.eq_of_beq_eq_true (List.all_eq_true.1 h n (List.mem_range.2 hn))
theorem nW{b:Nat}(hb:b<256)(h0:b≠0):bD 2 (fe b)=b∧fe b<255:=by
 have h2:fB (fun b=>Nat.beq b 0||(Nat.blt (rD.getD b 0) 255&&Nat.beq (kr.getD (rD.getD b 0) 0) b))=true:=by decide+kernel
 have h6:=fM h2 hb
 rw[Bool.or_eq_true,Bool.and_eq_true]at h6
 rcases h6 with h6|⟨h6,h7⟩
 ·exact absurd (Nat.eq_of_beq_eq_true h6) h0
 ·have h8:fe b<255:=by unfold fe;simpa [Nat.blt_eq] using h6
  exact⟨by rw[vE _ h8];exact Nat.eq_of_beq_eq_true h7,h8⟩
theorem I9{n:Nat}:bD 2 n≠0:=by
 intro h
 have h1:bD 2 (n%255)=0:=by rw[nP (by decide) (by decide)];exact h
 have h2:(List.range 255).all (fun n=>!(Nat.beq (kr.getD n 0) 0))=true:=by decide+kernel
 have h3:=List.all_eq_true.1 h2 (n%255) (List.mem_range.2 (Nat.mod_lt _ (by decide)))
 rw[vE _ (Nat.mod_lt _ (by decide))]at h1
 rw[h1]at h3;cases h3
def lH(n j:Nat):Int:=
 if j<510 then(if j%255<n then((bD 2 (j%255):Nat):Int)else 0)
 else(if j-510≠0∧fe (j-510)<n then((fe (j-510):Nat):Int)else 0)
theorem KB:(List.range 766).map (lH 255)=eV++gM:=by
 apply List.ext_getElem (by simp[eV,gM])
 intro j h1 h2
 have hj:j<766:=by simpa using h1
 rw[List.getElem_map,List.getElem_range]
 by_cases h:j<510
 ·rw[List.getElem_append_left (by simp[eV];exact h)]
  simp only[eV,List.getElem_map,List.getElem_range,lH,if_pos h,if_pos (Nat.mod_lt j (by decide:0<255))]
  rw[nP (by decide) (by decide)]
 ·rw[List.getElem_append_right (by simp[eV];omega)]
  simp only[gM,eV,List.getElem_map,List.getElem_range,lH,if_neg h,List.length_map,List.length_range]
  by_cases h0:j-510=0
  ·rw[h0];simp;decide+kernel
  ·rw[if_pos ⟨h0,(nW (by omega) h0).2⟩]
theorem KD{n:Nat}(hn:n<255):(((((List.range 766).map (lH n)).set (0+n) ((bD 2 n:Nat):Int)).set (0+(n+255)) ((bD 2 n:Nat):Int)).set (510+bD 2 n) (n:Int))=(List.range 766).map (lH (n+1)):=by
 have hb:=iP (a:=2) (by decide) n
 have hne:=I9 (n:=n)
 apply List.ext_getElem (by simp)
 intro j h1 h2
 have hj:j<766:=by simpa using h2
 rw[List.getElem_map,List.getElem_range]
 simp only[List.getElem_set,List.getElem_map,List.getElem_range]
 unfold lH
 by_cases h:j<510
 ·rw[if_neg (by omega)]
  simp only[if_pos h]
  by_cases e1:j%255=n
  ·rw[if_pos (by omega:j%255<n+1),e1]
   by_cases e2:0+(n+255)=j
   ·rw[if_pos e2]
   ·rw[if_neg e2,if_pos (by omega)]
  ·rw[if_neg (by omega),if_neg (by omega)]
   by_cases e3:j%255<n
   ·rw[if_pos e3,if_pos (by omega)]
   ·rw[if_neg e3,if_neg (by omega)]
 ·simp only[if_neg h]
  by_cases e:510+bD 2 n=j
  ·rw[if_pos e]
   have e1:j-510=bD 2 n:=by omega
   rw[e1,KQ hn,if_pos ⟨hne,by omega⟩]
  ·rw[if_neg e,if_neg (by omega),if_neg (by omega)]
   by_cases h0:j-510=0
   ·rw[if_neg (by omega),if_neg (by omega)]
   ·obtain⟨e1,l1⟩:=nW (b:=j-510) (by omega) h0
    have hx:fe (j-510)≠n:=fun hx=>e (by rw[←hx,e1];omega)
    by_cases e3:fe (j-510)<n
    ·rw[if_pos ⟨h0,e3⟩,if_pos ⟨h0,by omega⟩]
    ·rw[if_neg (fun hh=>e3 hh.2),if_neg (fun hh=>e3 (by have:=hh.2;omega))]
theorem Bg:∀(d n k:Nat),n+d=255→70000+d<k→fX.l0 k ((List.range 766).map (lH n)) ((bD 2 n:Nat):Int) (n:Int)=some (eV++gM)
 |d,_,0,_,h=>by omega
 |0,n,k+1,hn,hk=>by
  obtain rfl:n=255:=by omega
  rw[fX.l0,aQ (by omega),KB];rfl
 |d+1,n,k+1,hn,hk=>by
  have hb:=iP (a:=2) (by decide) n
  have e1:IntKind.i64.wrap ((n:Int)+255)=((n+255:Nat):Int):=by rw[ca (by omega) (by omega)];omega
  rw[fX.l0,bh (by omega),aF (by omega),e1,aF (by omega),aF (by omega),show(2:Int)=((2:Nat):Int) from rfl,rY hb (by decide) (by omega),aJ,lY (by omega) (by omega),bT (by omega)]
  simp only[Int.toNat_natCast]
  rw[KD (by omega)]
  exact Bg d (n+1) k (by omega) (by omega)
theorem KC{k:Nat}(hk:80000<k):fX.f k=some (eV++gM):=by
 unfold fX.f
 have e:List.replicate 766 (0:Int)=(List.range 766).map (lH 0):=by
  apply List.ext_getElem (by simp)
  intro j h1 h2
  rw[List.getElem_replicate,List.getElem_map]
  unfold lH;split
  ·rw[if_neg (by omega)]
  ·rw[if_neg (by omega)]
 rw[e]
 exact Bg 255 0 k (by omega) (by omega)
theorem vN(a b c d:Value)(l:List Value):(([a,b,c,d]:List Value)++l).toArray[0]? =some a:=by simp
theorem AO(a b c d:Value)(l:List Value):(([a,b,c,d]:List Value)++l).toArray[1]? =some b:=by simp
theorem PC(a b c d x:Value)(l:List Value):(([a,b,c,d]:List Value)++l).toArray.setIfInBounds 0 x=(([x,b,c,d]:List Value)++l).toArray:=by simp
theorem Di(a b c d x:Value)(l:List Value):(([a,b,c,d]:List Value)++l).toArray.setIfInBounds 1 x=(([a,x,c,d]:List Value)++l).toArray:=by simp
theorem xK:r9 false=([.int .u32 0,.int .i32 0,.int .u32 0,.int .i32 0]:List Value)++(List.replicate 766 (0:Int)).map (Value.int .u8):=by
 rw[List.map_replicate];rfl
theorem Du:r9 true=([.int .u32 1,.int .i32 0,.int .u32 0,.int .i32 1]:List Value)++(eV++gM).map (Value.int .u8):=rfl
variable[de]
theorem Qg{t:Nat}{w:World}(h:(Rs.cn t false).inv w):St (Rs.cn t true).fp (w.setCell ⟨t,1,none⟩ (.int .i32 1)) (w.setCell ⟨t,1,none⟩ (.int .i32 1)) [.blk t (([.int .u32 0,.int .i32 1,.int .u32 0,.int .i32 0]:List Value)++(List.replicate 766 (0:Int)).map (Value.int .u8)).toArray 278,.gt]:=by
 obtain⟨hg,h1,hb⟩:=h
 have hb':=ll (o:=1) (.int .i32 1) hb
 have hg':Rs.gt.inv (w.setCell ⟨t,1,none⟩ (.int .i32 1)):=Rs.gt.loc w _ (fun b e=>by
  have e':b=3:=e
  exact Below.heap_setCell w _ _ b (fun x=>h1 (x.symm.trans e'))) hg
 refine⟨.refl _ _,?_,?_,?_⟩
 ·intro r hr
  rcases List.mem_cons.1 hr with rfl|hr
  ·rw[xK,Di]at hb';exact hb'
  ·rw[List.mem_singleton.1 hr];exact hg'
 ·intro r hr b hbf
  rcases List.mem_cons.1 hr with rfl|hr
  ·exact .inr (.inl hbf)
  ·rw[List.mem_singleton.1 hr]at hbf;exact .inr (.inr hbf)
 ·refine List.pairwise_cons.2 ⟨fun s hs b x y=>?_,List.pairwise_singleton _ _⟩
  rw[List.mem_singleton.1 hs]at y
  have x':b=t:=x
  have y':b=3:=y
  exact h1 (x'.symm.trans y')
theorem Qe{t:Nat}{m:Bool}{w:World}(h:(Rs.cn t m).inv w):Calls Tryz.prog 162 #[.pointer (some ⟨t,0,none⟩),.func (.func 406) #[.pointer (some ⟨t,0,none⟩)] #[]] w fun e w'=>e= .returned (.tuple #[])∧(Rs.cn t true).inv w'∧Ch (Rs.cn t m).fp w w':=by
 cases m with
 |true=>
  refine(BW ⟨t,0,none⟩ 1 (by decide) _ w (ak h.2.2 (by rw[Du];exact vN _ _ _ _ _))).mono ?_
  rintro e w' ⟨rfl,rfl⟩
  exact⟨rfl,h,.refl _ _⟩
 |false=>
  obtain⟨hg,h1,hb⟩:=id h
  have hlt:t<w.heap.size:=(Rs.blk t _ _).bd w hb t rfl
  let w1:=w.setCell ⟨t,1,none⟩ (.int .i32 1)
  have hm:=fX.calls (k:=100000) (Qg h) (KC (by decide))
  refine(MU t 0 (.pointer (some ⟨t,0,none⟩)) w (fun w2=>St (Rs.cn t true).fp w1 w2 [.blk t (([.int .u32 0,.int .i32 1,.int .u32 0,.int .i32 1]:List Value)++(eV++gM).map (Value.int .u8)).toArray 278,.gt])
   (ak hb (by rw[xK];exact vN _ _ _ _ _)) (ak hb (by rw[xK];exact AO _ _ _ _ _)) (dR hb) (dR hb) (hm.mono fun e w2 ⟨e1,K⟩=>⟨e1,K⟩) (fun w2 K=>?_)).mono ?_
  ·have hb2:=K.Gt 0 rfl
   exact⟨ak hb2 (vN _ _ _ _ _),ak hb2 (AO _ _ _ _ _),dR hb2,dR hb2⟩
  ·rintro e w' ⟨rfl,w2,K,rfl⟩
   have hb2:=K.Gt 0 rfl
   have hg2:=K.Gt 1 rfl
   have hb3:(Rs.blk t _ _).inv w2.drew:=hb2
   have hb4:=ll (o:=0) (.int .u32 1) hb3
   rw[PC]at hb4
   have hb5:=ll (o:=1) (.int .i32 0) hb4
   rw[Di,←Du]at hb5
   refine⟨rfl,⟨?_,h1,?_⟩,?_⟩
   ·refine Rs.gt.loc w2 _ (fun b e=>?_) hg2
    have e':b=3:=e
    rw[Below.heap_setCell _ _ _ b (fun x=>h1 (x.symm.trans e')),Below.heap_setCell _ _ _ b (fun x=>h1 (x.symm.trans e'))];rfl
   ·exact hb5
   ·have c1:Ch (Rs.cn t false).fp w w1:= .set w _ _ (.inl rfl)
    have c2:Ch (Rs.cn t false).fp w1 w2:=K.ch
    exact((c1.trans c2).trans (.drew _ _)).trans ((Ch.set _ _ _ (.inl rfl)).trans (.set _ _ _ (.inl rfl)))
theorem MO:Fa Tryz.prog 278 0 0:=⟨_,_,Tryz.underlying278,rfl,rfl,2,by kernel_rfl⟩
theorem MP:Fa Tryz.prog 278 2 4:=⟨_,_,Tryz.underlying278,rfl,rfl,765,by kernel_rfl⟩
theorem MN:En Tryz.prog 162:=⟨_,_,Tryz.func162,by kernel_rfl,rfl⟩
theorem xL.calls{w0:World}{t0_:Nat}{m0_:Bool}(hf:(Rs.cn t0_ m0_).inv w0):Calls Tryz.prog 409 #[.pointer (some ⟨t0_,0,none⟩)] w0 fun e w'=>e= .returned (.pointer (some ⟨t0_,4,none⟩))∧St (Rs.cn t0_ m0_).fp w0 w' [.cn t0_ true]:=by
 have H:=St.start hf
 refine aP (N:=12) (args:=[.pointer (some ⟨t0_,0,none⟩)]) Tryz.func409 rfl rfl (by simp) ?_
 refine rg (v_ rfl (sg (.pointer none) rfl) (nl (rg (v_ rfl (mv (.pointer (some ⟨t0_,0,none⟩)) rfl) (v_ rfl (bw rfl) (v_ rfl (az MO rfl) (v_ rfl (mv (.pointer (some ⟨t0_,0,none⟩)) rfl) (v_ rfl (gw [.pointer (some ⟨t0_,0,none⟩)] [] rfl rfl) (e_ rfl (au MN rfl ((Qe (H.Gt 0 rfl)).mono ?_)))))))))))
 rintro _ w ⟨rfl,K1,K2⟩
 have H:=H.put 0 rfl K2 K1 (fun _ hb=> .inl hb)
 refine⟨_,rfl,?_⟩
 refine nl (rg (v_ rfl (mv (.pointer (some ⟨t0_,0,none⟩)) rfl) (v_ rfl (bw rfl) (v_ rfl (az MP rfl) (v_ rfl (sg (.pointer (some ⟨t0_,0+4,none⟩)) rfl) (nl (aj ?_)))))))
 exact⟨.inl rfl,_,tk0 rfl ⟨aB rfl (ad ai),rfl,H⟩⟩
end Go.Proofs.YtmhkpafkadijgaaGreatDoor.Gw
