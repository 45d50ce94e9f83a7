/- A part of the proof of Rows.PlayDecodesCardSaid; the conditions are that card's own. -/
import Derived.Test.YtmhkpafkadijgaaGreatDoorQ2
import Derived.Tactics
import Derived.Tactics2
import Derived.Defers
import Derived.Laws.Pointers
import Derived.Laws.LoneSync
import Derived.RegionTactic
import Derived.RegionCalls
import Derived.ChangeAlike
set_option linter.all false
set_option maxRecDepth 100000
set_option maxHeartbeats 4000000
namespace Go.Proofs.YtmhkpafkadijgaaGreatDoor.Gw
open Go Go.RowKit
theorem BV(w:World):(callFunc 334 #[]).run Tryz.prog w= .ok (.value (.tuple #[])) w:=run_call_mark0 Tryz.func334 d_ d_ d_ .disable d_ w
theorem BX(w:World):(callFunc 336 #[]).run Tryz.prog w= .ok (.value (.tuple #[])) w:=run_call_mark0 Tryz.func336 d_ d_ d_ .enable d_ w
theorem MS(a:Addr)(w:World):(callFunc 337 #[.pointer (some a)]).run Tryz.prog w= .ok (.value (.tuple #[])) w:=run_call_marked Tryz.func337 d_ d_ d_ .acquire d_ a w
theorem MW(a:Addr)(w:World):(callFunc 339 #[.pointer (some a)]).run Tryz.prog w= .ok (.value (.tuple #[])) w:=run_call_marked Tryz.func339 d_ d_ d_ .releaseMerge d_ a w
theorem B0(a:Addr)(x:Value)(u:FrameMode)(w:World)(hc:w.cell? a=some x)(hz:w.frozen? a=false):
 CallsD Tryz.prog 259 #[.pointer (some a),.bool true] u w fun e u' w'=>u'=u∧(e= .returned (.tuple #[])∧w'=w.drew.setCell a (.int .u32 1)):=by
 have hc':w.drew.cell? a=some x:=aaI
 have hz':w.drew.frozen? a=false:=aaI
 have hst:=run_call_store (P:=Tryz.prog) Tryz.func304 d_ d_ d_ d_ (k:= .u32) (y:=1) hc' hz'
 go_enter_d Tryz.func259,(show Tryz.f259.ntmps=_ from rfl)
 go_wp2
 go_region_calls
 all_goals (go_end0;exact⟨rfl,rfl⟩)
theorem B1(a:Addr)(u:FrameMode)(w:World)(hc:w.cell? a=some (.int .i32 1))(hz:w.frozen? a=false):
 CallsD Tryz.prog 258 #[.pointer (some a)] u w fun e u' w'=>u'=u∧(e= .returned (.tuple #[])∧w'=w.setCell a (.int .i32 0)):=by
 have hd:=BV
 have he:=BX
 have hr:=MW
 have hadd:=run_call_add (P:=Tryz.prog) Tryz.func213 d_ d_ d_ .i32 d_ (y:= -1) (s:=0) hc hz (by simp[go_sem];rfl)
 have hcv:=run_convert_to_unsafe (P:=Tryz.prog) (src:=415) (dst:=219) Tryz.underlying415 Tryz.underlying219 d_ hc
 go_enter_d Tryz.func258,(show Tryz.f258.ntmps=_ from rfl)
 go_wp2
 go_end0
 go_wp2
 go_end0
 exact⟨rfl,rfl⟩
theorem BZ(a:Addr)(w:World)(hc:w.cell? a=some (.int .i32 0))(hz:w.frozen? a=false):
 Calls Tryz.prog 257 #[.pointer (some a)] w fun e w'=>e= .returned (.tuple #[])∧w'=w.setCell a (.int .i32 1):=by
 have hd:=BV
 have he:=BX
 have ha:=MS
 have hcas:=run_call_cas_hit (P:=Tryz.prog) Tryz.func335 d_ d_ d_ .i32 d_ (y:=1) hc hz
 have hc':(w.setCell a (.int .i32 1)).cell? a=some (.int .i32 1):=World.cell?_setCell_same w a _ hc
 have hcv:=run_convert_to_unsafe (P:=Tryz.prog) (src:=415) (dst:=219) Tryz.underlying415 Tryz.underlying219 d_ hc'
 go_enter Tryz.func257,(show Tryz.f257.ntmps=_ from rfl)
 go_wp2
 first|go_end0|(simp only[Exit.inBlock,Exit.then];refine bodyPost_ret (results_none rfl _ _ _) rfl ?_)|refine bodyPost_ret (results_none rfl _ _ _) rfl ?_
 go_wp2
 go_end0
 exact⟨rfl,rfl⟩
theorem BW(a:Addr)(d:Int)(hd:¬d=0)(fv:Value)(w:World)(h0:w.cell? a=some (.int .u32 d)):
 Calls Tryz.prog 162 #[.pointer (some a),fv] w fun e w'=>e= .returned (.tuple #[])∧w'=w:=by
 have hl:=run_call_load (P:=Tryz.prog) Tryz.func256 d_ d_ d_ .u32 d_ h0
 have hnot:∀(x:Bool)(w:World),(Op.unary .not (.bool x)).run Tryz.prog w= .ok (.bool (!x)) w:=fun _ _=>rfl
 have hd':(d !=0)=true:=by simp[hd]
 go_enter Tryz.func162,(show Tryz.f162.ntmps=_ from rfl)
 go_wp2
 go_end0
 exact⟨rfl,rfl⟩
theorem MX(b off:Nat)(fa:Value)(w:World)(R:World→Prop)(h0:w.cell? ⟨b,off,none⟩=some (.int .u32 0))(h1:w.cell? ⟨b,off+1,none⟩=some (.int .i32 0))(f0:w.frozen? ⟨b,off,none⟩=false)(f1:w.frozen? ⟨b,off+1,none⟩=false)(hc:Calls Tryz.prog 406 #[fa] (w.setCell ⟨b,off+1,none⟩ (.int .i32 1)) fun e w'=>e= .returned (.tuple #[])∧R w')(hR:∀w',R w'→w'.cell? ⟨b,off,none⟩=some (.int .u32 0)∧w'.cell? ⟨b,off+1,none⟩=some (.int .i32 1)∧w'.frozen? ⟨b,off,none⟩=false∧w'.frozen? ⟨b,off+1,none⟩=false):
 Calls Tryz.prog 212 #[.pointer (some ⟨b,off,none⟩),.func (.func 406) #[fa] #[]] w fun e w'=>e= .returned (.tuple #[])∧∃w1,R w1∧
  w'=(w1.drew.setCell ⟨b,off,none⟩ (.int .u32 1)).setCell ⟨b,off+1,none⟩ (.int .i32 0):=by
 have hl:=run_call_load (P:=Tryz.prog) Tryz.func256 d_ d_ d_ .u32 d_ (w:=w.setCell ⟨b,off+1,none⟩ (.int .i32 1)) (a:=⟨b,off,none⟩) (x:=0) ((World.cell?_setCell_other _ ⟨b,off+1,none⟩ ⟨b,off,none⟩ _ j_).trans h0)
 have hnot:∀(x:Bool)(w:World),(Op.unary .not (.bool x)).run Tryz.prog w= .ok (.bool (!x)) w:=fun _ _=>rfl
 go_enter_defers Tryz.func212,(show Tryz.f212.ntmps=_ from rfl)
 go_wp2_with (go_at_call 257;refine(BZ ⟨b,off+1,none⟩ _ aaI aaI).mono ?_;rintro e w' ⟨rfl,rfl⟩)
 go_wp2_with (first|(go_at_call 406;refine hc.mono ?_;rintro e w' ⟨rfl,hr⟩)|(go_at_call 211;go_in))
 obtain⟨c0,c1,z0,z1⟩:=hR _ hr
 refine leaves_cons (f:=259) (args:=#[.pointer (some ⟨b,off,none⟩),.bool true]) j_ ZZ ?_
 refine(B0 ⟨b,off,none⟩ (.int .u32 0) .returning _ c0 z0).mono ?_
 rintro e u' w'' ⟨rfl,rfl,rfl⟩
 refine leaves_cons (f:=258) (args:=#[.pointer (some ⟨b,off+1,none⟩)]) (by simp[settle]) ZZ ?_
 refine(B1 ⟨b,off+1,none⟩ _ _ ?_ (by simp[z1])).mono ?_
 ·refine(World.cell?_setCell_other _ ⟨b,off,none⟩ ⟨b,off+1,none⟩ _ j_).trans ?_
  rw[World.cell?_drew];exact c1
 rintro e u' w'' ⟨rfl,rfl,rfl⟩
 simp[Leaves,settle,results]
 first|exact⟨_,hr,rfl⟩|skip
theorem MU(b off:Nat)(fa:Value)(w:World)(R:World→Prop)(h0:w.cell? ⟨b,off,none⟩=some (.int .u32 0))(h1:w.cell? ⟨b,off+1,none⟩=some (.int .i32 0))(f0:w.frozen? ⟨b,off,none⟩=false)(f1:w.frozen? ⟨b,off+1,none⟩=false)(hc:Calls Tryz.prog 406 #[fa] (w.setCell ⟨b,off+1,none⟩ (.int .i32 1)) fun e w'=>e= .returned (.tuple #[])∧R w')(hR:∀w',R w'→w'.cell? ⟨b,off,none⟩=some (.int .u32 0)∧w'.cell? ⟨b,off+1,none⟩=some (.int .i32 1)∧w'.frozen? ⟨b,off,none⟩=false∧w'.frozen? ⟨b,off+1,none⟩=false):
 Calls Tryz.prog 162 #[.pointer (some ⟨b,off,none⟩),.func (.func 406) #[fa] #[]] w fun e w'=>e= .returned (.tuple #[])∧∃w1,R w1∧
  w'=(w1.drew.setCell ⟨b,off,none⟩ (.int .u32 1)).setCell ⟨b,off+1,none⟩ (.int .i32 0):=by
 have hl:=run_call_load (P:=Tryz.prog) Tryz.func256 d_ d_ d_ .u32 d_ h0
 have hnot:∀(x:Bool)(w:World),(Op.unary .not (.bool x)).run Tryz.prog w= .ok (.bool (!x)) w:=fun _ _=>rfl
 go_enter Tryz.func162,(show Tryz.f162.ntmps=_ from rfl)
 go_wp2_with (first|(go_at_call 212;refine(MX b off fa _ R h0 h1 f0 f1 hc hR).mono ?_;rintro e w' ⟨rfl,w1,hr,rfl⟩)|(go_at_call 211;go_in))
 go_end0
 exact⟨rfl,w1,hr,rfl⟩
theorem MY(b off:Nat)(fa fb:Value)(w:World)(R:World→Prop)(h0:w.cell? ⟨b,off,none⟩=some (.int .u32 0))(h1:w.cell? ⟨b,off+1,none⟩=some (.int .i32 0))(f0:w.frozen? ⟨b,off,none⟩=false)(f1:w.frozen? ⟨b,off+1,none⟩=false)(hc:Calls Tryz.prog 163 #[fa,fb] (w.setCell ⟨b,off+1,none⟩ (.int .i32 1)) fun e w'=>e= .returned (.tuple #[])∧R w')(hR:∀w',R w'→w'.cell? ⟨b,off,none⟩=some (.int .u32 0)∧w'.cell? ⟨b,off+1,none⟩=some (.int .i32 1)∧w'.frozen? ⟨b,off,none⟩=false∧w'.frozen? ⟨b,off+1,none⟩=false):
 Calls Tryz.prog 212 #[.pointer (some ⟨b,off,none⟩),.func (.func 163) #[] #[fa,fb]] w fun e w'=>e= .returned (.tuple #[])∧∃w1,R w1∧
  w'=(w1.drew.setCell ⟨b,off,none⟩ (.int .u32 1)).setCell ⟨b,off+1,none⟩ (.int .i32 0):=by
 have hl:=run_call_load (P:=Tryz.prog) Tryz.func256 d_ d_ d_ .u32 d_ (w:=w.setCell ⟨b,off+1,none⟩ (.int .i32 1)) (a:=⟨b,off,none⟩) (x:=0) ((World.cell?_setCell_other _ ⟨b,off+1,none⟩ ⟨b,off,none⟩ _ j_).trans h0)
 have hnot:∀(x:Bool)(w:World),(Op.unary .not (.bool x)).run Tryz.prog w= .ok (.bool (!x)) w:=fun _ _=>rfl
 go_enter_defers Tryz.func212,(show Tryz.f212.ntmps=_ from rfl)
 go_wp2_with (go_at_call 257;refine(BZ ⟨b,off+1,none⟩ _ aaI aaI).mono ?_;rintro e w' ⟨rfl,rfl⟩)
 go_wp2_with (first|(go_at_call 163;refine hc.mono ?_;rintro e w' ⟨rfl,hr⟩)|(go_at_call 211;go_in))
 obtain⟨c0,c1,z0,z1⟩:=hR _ hr
 refine leaves_cons (f:=259) (args:=#[.pointer (some ⟨b,off,none⟩),.bool true]) j_ ZZ ?_
 refine(B0 ⟨b,off,none⟩ (.int .u32 0) .returning _ c0 z0).mono ?_
 rintro e u' w'' ⟨rfl,rfl,rfl⟩
 refine leaves_cons (f:=258) (args:=#[.pointer (some ⟨b,off+1,none⟩)]) (by simp[settle]) ZZ ?_
 refine(B1 ⟨b,off+1,none⟩ _ _ ?_ (by simp[z1])).mono ?_
 ·refine(World.cell?_setCell_other _ ⟨b,off,none⟩ ⟨b,off+1,none⟩ _ j_).trans ?_
  rw[World.cell?_drew];exact c1
 rintro e u' w'' ⟨rfl,rfl,rfl⟩
 simp[Leaves,settle,results]
 first|exact⟨_,hr,rfl⟩|skip
theorem wV(b off:Nat)(fa fb:Value)(w:World)(R:World→Prop)(h0:w.cell? ⟨b,off,none⟩=some (.int .u32 0))(h1:w.cell? ⟨b,off+1,none⟩=some (.int .i32 0))(f0:w.frozen? ⟨b,off,none⟩=false)(f1:w.frozen? ⟨b,off+1,none⟩=false)(hc:Calls Tryz.prog 163 #[fa,fb] (w.setCell ⟨b,off+1,none⟩ (.int .i32 1)) fun e w'=>e= .returned (.tuple #[])∧R w')(hR:∀w',R w'→w'.cell? ⟨b,off,none⟩=some (.int .u32 0)∧w'.cell? ⟨b,off+1,none⟩=some (.int .i32 1)∧w'.frozen? ⟨b,off,none⟩=false∧w'.frozen? ⟨b,off+1,none⟩=false):
 Calls Tryz.prog 162 #[.pointer (some ⟨b,off,none⟩),.func (.func 163) #[] #[fa,fb]] w fun e w'=>e= .returned (.tuple #[])∧∃w1,R w1∧
  w'=(w1.drew.setCell ⟨b,off,none⟩ (.int .u32 1)).setCell ⟨b,off+1,none⟩ (.int .i32 0):=by
 have hl:=run_call_load (P:=Tryz.prog) Tryz.func256 d_ d_ d_ .u32 d_ h0
 have hnot:∀(x:Bool)(w:World),(Op.unary .not (.bool x)).run Tryz.prog w= .ok (.bool (!x)) w:=fun _ _=>rfl
 go_enter Tryz.func162,(show Tryz.f162.ntmps=_ from rfl)
 go_wp2_with (first|(go_at_call 212;refine(MY b off fa fb _ R h0 h1 f0 f1 hc hR).mono ?_;rintro e w' ⟨rfl,w1,hr,rfl⟩)|(go_at_call 211;go_in))
 go_end0
 exact⟨rfl,w1,hr,rfl⟩
def sx(P:Program)(T:TypeId)(n:Nat):Prop:=((P.info? T).bind (·.zero)).map (fun v=>v.cells.toList)=some (List.replicate n (.int .u8 0))
section
variable{P:Program}{ρ:Option Nat}{N:Nat}{t:Fr}{w w0:World}{X:Nat→Prop}{L:List Rs}{R:Value→World→Prop}{d:Option Nat}{ty T T1 E:TypeId}{ps:String}{af:Array Edge}{g:Option (Nat×Bool)}{x y:Operand}{b n:Nat}{l l0:List Int}
theorem D6(hz:sx P T n)(H:St X w0 w L)(h:∀b w',St X w0 w' (L++[.own (.int .u8) T (.slice (some ⟨b,0,none⟩) n n) (List.replicate n 0)])→R (.pointer (some ⟨b,0,none⟩)) w')(hn:Nat.ble n maxLen=true:=by rfl):Yd P ρ N ⟨d,.alloc T,ty,ps,af,g⟩ t w R:=by
 unfold sx at hz
 cases hi:(P.info? T).bind (·.zero)with
 |none=>rw[hi]at hz;cases hz
 |some v=>
  rw[hi]at hz
  have hc:v.cells.toList=List.replicate n (.int .u8 0):=by simpa using hz
  have hs:v.cells.size=n:=by rw[←Array.length_toList,hc];simp
  refine uK hi rfl (h _ _ (H.new (.alloc _ _ _) ?_ ?_))
  ·refine⟨by rw[(bm.int .u8).fC],.inr ⟨w.heap.size,n,v.cells,by simp,Nat.zero_le _,?_,by simp,Nat.le_of_ble_eq_true hn,by rw[hs];exact(Nat.mul_one n).symm,?_⟩⟩
   ·show(w.heap.push _)[w.heap.size]? =_
    simp
   rw[hc,qC];simp[bm.int]
  intro c hb
  have:(Value.slice (some ⟨w.heap.size,0,none⟩) n n).ownBlock=some c:=hb
  cases this;exact aI _
theorem sD(h:(Rs.own (.int .u8) E (.slice (some ⟨b,0,none⟩) n n) l).inv w):l.length=n:=by
 rcases h.2 with⟨h,_⟩|⟨c,cap,cur,h,_⟩
 ·cases h
 injection h with h1 h2 h3;exact h2.symm
theorem nn{o:Nat}{i u:Int}(hT:Sz P T 1)(H:St X w0 w L)(q:Nat)(hk:L[q]? =some (.own (.int .u8) E (.slice (some ⟨b,0,none⟩) n n) l))(h1:o+i.toNat<n)(hx:ev t x= .pointer (some ⟨b,o+i.toNat*1,none⟩))(hy:ev t y= .int .u8 u)(h:∀w',St X w0 w' (L.set q (.own (.int .u8) E (.slice (some ⟨b,0,none⟩) n n) (l.set (o+i.toNat) u)))→R undef w'):Yd P ρ N ⟨d,.store T x y,ty,ps,af,g⟩ t w R:=by
 have hl:=sD (H.Gt q hk)
 refine Ed (e:= .int .u8) (j:=0) hT H q hk (C_ a_) aae rfl ?_ hy rfl rfl h
 rw[hx]
 show _=Value.pointer (some ⟨b,0+((o+i.toNat)*1+0),none⟩)
 congr 3;omega
theorem yw(h:(Rs.own (.int .u8) E (.slice (some ⟨b,0,none⟩) n n) l).inv w):w.rangeAt b 0 (l.map (Value.int .u8)):=by
 intro j v hv
 have hr:=(ao h).cells f_ rfl
 have:=hr.2 j v (by rw[qC];exact hv)
 rw[Addr.add_mid]at this
 exact this
theorem OC(hT:Ag P T n)(h:(Rs.own (.int .u8) E (.slice (some ⟨b,0,none⟩) n n) l).inv w)(hx:ev t x= .pointer (some ⟨b,0,none⟩)):Rv P ⟨d,.load T x,ty,ps,af,g⟩ t w (.agg (l.map (Value.int .u8)).toArray):=
 rT (by rw[x_,sD h];exact hT) hx (yw h)
theorem Rb{hd:List Value}{p:Nat}(hT:Sz P T n)(H:St X w0 w L)(q qa:Nat)(hq:L[q]? =some (.blk b (hd++l0.map (Value.int .u8)).toArray T1))(hqa:L[qa]? =some (.own (.int .u8) E (.slice (some ⟨p,0,none⟩) n n) l))(h0:l0.length=n)(hx:ev t x= .pointer (some ⟨b,hd.length,none⟩))(hy:ev t y= .agg (l.map (Value.int .u8)).toArray)(h:∀w',St X w0 w' (L.set q (.blk b (hd++l.map (Value.int .u8)).toArray T1))→R undef w'):Yd P ρ N ⟨d,.store T x y,ty,ps,af,g⟩ t w R:=by
 have hl:=sD (H.Gt qa hqa)
 have hb:=H.Gt q hq
 refine xZ (by simpa [hl] using hT) hx hy (fun j hj=>⟨?_,dR hb⟩) (by simp;intro x _;rfl) (h _ (H.put q hq (qJ _ _ _) ?_ (fun _ e=> .inl e)))
 ·rw[ak hb (La (by simp at hj⊢;omega))];rfl
 have:=qE (l.map (Value.int .u8)) hd.length _ w hb
 have e:kD (hd++l0.map (Value.int .u8)).toArray hd.length (l.map (Value.int .u8))=(hd++l.map (Value.int .u8)).toArray:=by
  apply EZ
  rw[uA _ _ _ l_]
  simp;omega
 rw[e]at this;exact this
end
theorem BU(a:Addr)(w:World)(hc:w.cell? a=some (.int .i32 0))(hz:w.frozen? a=false):
 Calls Tryz.prog 164 #[.pointer (some a),.int .i32 1] w fun e w'=>e= .returned (.int .i32 1)∧w'=w.setCell a (.int .i32 1):=by
 have hadd:=run_call_add (P:=Tryz.prog) Tryz.func213 d_ d_ d_ .i32 d_ (y:=1) (s:=1) hc hz (by simp[go_sem];rfl)
 go_enter Tryz.func164,(show Tryz.f164.ntmps=_ from rfl)
 go_wp2
 go_ret
 exact⟨rfl,rfl⟩
section
variable{ρ:Option Nat}{N:Nat}{t:Fr}{w w0:World}{X:Nat→Prop}{L:List Rs}{R:Value→World→Prop}{d:Option Nat}{ty T1:TypeId}{ps:String}{af:Array Edge}{g:Option (Nat×Bool)}{b:Nat}{l:List Int}
theorem QO{xs:Array Operand}{ats:Array TypeId}{c0 c1 c2:Value}(hf:En Tryz.prog 164)(H:St X w0 w L)(q:Nat)(hq:L[q]? =some (.blk b ([c0,c1,c2,.int .i32 0]++l.map (Value.int .u8)).toArray T1))(hv:xs.toList.map (ev t)=[.pointer (some ⟨b,3,none⟩),.int .i32 1])(_e:True)(h:∀w',St X w0 w' (L.set q (.blk b ([c0,c1,c2,.int .i32 1]++l.map (Value.int .u8)).toArray T1))→R (.int .i32 1) w'):Yd Tryz.prog ρ N ⟨d,.call ⟨.value (.func 164),xs,ats⟩,ty,ps,af,g⟩ t w R:=by
 have hb:=H.Gt q hq
 refine au hf hv ((BU ⟨b,3,none⟩ w (ak hb j_) (dR hb)).mono ?_)
 rintro _ w' ⟨rfl,rfl⟩
 refine⟨_,rfl,h _ (H.put q hq (.set _ _ _ rfl) ?_ (fun _ e=> .inl e))⟩
 have:=ll (o:=3) (.int .i32 1) hb
 simpa using this
end
end Go.Proofs.YtmhkpafkadijgaaGreatDoor.Gw
