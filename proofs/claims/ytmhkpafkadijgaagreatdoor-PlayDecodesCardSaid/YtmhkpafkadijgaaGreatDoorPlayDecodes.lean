/- 'Rows.PlayDecodesCardSaid': whatever the input, the law PlayDecodes answers true and each argument reads as it did; what its row lists is tied to the program's text. The row's own conditions: calm, laid. -/
import Derived.Test.YtmhkpafkadijgaaGreatDoorTie
import Derived.Test.YtmhkpafkadijgaaGreatDoorCards
import Derived.Test.YtmhkpafkadijgaaGreatDoorQ46
import Derived.Test.YtmhkpafkadijgaaGreatDoorQ38
import Derived.Test.YtmhkpafkadijgaaGreatDoorQ39
import Derived.OpenShut
import Derived.Conc.HoldsTime
import Derived.Deep.DeepLaidRun
import Derived.Stop.LaidErr
import Derived.Lib.LaidTab
import Derived.Shelf.Vars
import Derived.SevenTiedAt
set_option linter.all false
set_option maxRecDepth 100000
namespace Go.Proofs.YtmhkpafkadijgaaGreatDoor.playDecodes
open Go Go.ChangeShapes Go.WideShapes Go.ChangeAt Go.RowKit Go.Lib
theorem own:ownKnob Tryz.prog.godebug=none:=by kernel_rfl
theorem laidOut:laidOutB Tryz.prog=true:=by kernel_rfl
theorem wB:Tryz.prog.inits.idxOf? 3=none:=by kernel_rfl
theorem My:(Rows.playDecodesRow.laid.filter fun x=>x.2.handleName?.isSome)=[]:=by kernel_rfl
theorem Bb(w:World):laidMetH Tryz.prog Rows.playDecodesRow.laid w↔laidMet Tryz.prog Rows.playDecodesRow.laid w:=by
 unfold laidMetH;rw[My]
def oD(cs:Array Value):Obj→Obj
 | .cells _ t fz=> .cells cs t fz
 |o=>o
noncomputable def low:Nat:=(World.holding Tryz.prog default ⟨#[],#[],[]⟩).heap.size
noncomputable def Bc(os:Os):World:=
 let w0:=World.holding Tryz.prog os ⟨#[.cells #[.string ⟨#[118,97,108,117,101,32,111,117,116,32,111,102,32,114,97,110,103,101]⟩] 387,.cells #[.string ⟨#[105,110,118,97,108,105,100,32,115,121,110,116,97,120]⟩] 387],#[],[]⟩
 {w0 with heap:=(((((((w0.heap.modify 2 (oD #[.int .u8 0,.int .u8 1,.int .u8 28,.int .u8 2,.int .u8 29,.int .u8 14,.int .u8 24,.int .u8 3,.int .u8 30,.int .u8 22,.int .u8 20,.int .u8 15,.int .u8 25,.int .u8 17,.int .u8 4,.int .u8 8,.int .u8 31,.int .u8 27,.int .u8 13,.int .u8 23,.int .u8 21,.int .u8 19,.int .u8 16,.int .u8 7,.int .u8 26,.int .u8 12,.int .u8 18,.int .u8 6,.int .u8 11,.int .u8 5,.int .u8 10,.int .u8 9])).modify 3 (oD #[.int .u8 0,.int .u8 1,.int .u8 56,.int .u8 2,.int .u8 57,.int .u8 49,.int .u8 28,.int .u8 3,.int .u8 61,.int .u8 58,.int .u8 42,.int .u8 50,.int .u8 38,.int .u8 29,.int .u8 17,.int .u8 4,.int .u8 62,.int .u8 47,.int .u8 59,.int .u8 36,.int .u8 45,.int .u8 43,.int .u8 51,.int .u8 22,.int .u8 53,.int .u8 39,.int .u8 33,.int .u8 30,.int .u8 24,.int .u8 18,.int .u8 12,.int .u8 5,.int .u8 63,.int .u8 55,.int .u8 48,.int .u8 27,.int .u8 60,.int .u8 41,.int .u8 37,.int .u8 16,.int .u8 46,.int .u8 35,.int .u8 44,.int .u8 21,.int .u8 52,.int .u8 32,.int .u8 23,.int .u8 11,.int .u8 54,.int .u8 26,.int .u8 40,.int .u8 15,.int .u8 34,.int .u8 20,.int .u8 31,.int .u8 10,.int .u8 25,.int .u8 14,.int .u8 19,.int .u8 9,.int .u8 13,.int .u8 8,.int .u8 7,.int .u8 6])).modify 0 (oD #[.int .u64 1,.int .u64 10,.int .u64 100,.int .u64 1000,.int .u64 10000,.int .u64 100000,.int .u64 1000000,.int .u64 10000000,.int .u64 100000000,.int .u64 1000000000,.int .u64 10000000000,.int .u64 100000000000,.int .u64 1000000000000,.int .u64 10000000000000,.int .u64 100000000000000,.int .u64 1000000000000000,.int .u64 10000000000000000,.int .u64 100000000000000000,.int .u64 1000000000000000000,.int .u64 10000000000000000000])).modify 7 (oD #[.int .u8 128,.int .u8 191,.int .u8 160,.int .u8 191,.int .u8 128,.int .u8 159,.int .u8 144,.int .u8 191,.int .u8 128,.int .u8 143,.int .u8 0,.int .u8 0,.int .u8 0,.int .u8 0,.int .u8 0,.int .u8 0,.int .u8 0,.int .u8 0,.int .u8 0,.int .u8 0,.int .u8 0,.int .u8 0,.int .u8 0,.int .u8 0,.int .u8 0,.int .u8 0,.int .u8 0,.int .u8 0,.int .u8 0,.int .u8 0,.int .u8 0,.int .u8 0])).modify 5 (oD #[.iface 385 (.pointer (some ⟨low+0,0,none⟩))])).modify 4 (oD #[.iface 385 (.pointer (some ⟨low+1,0,none⟩))])).modify 6 (oD (Go.Pinned.utf8FirstZ.map fun(n:Nat)=>Value.int .u8 n).toArray))}
theorem Kx(os:Os)(args:Array Value):laidMet Tryz.prog Rows.playDecodesRow.laid ((Bc os).forCall (fun _ _=>0) ⟨#[],args,[]⟩).memory:=
 laidMet_of_run3 8 (by kernel_rfl) (by kernel_rfl) (by kernel_rfl)
theorem witness{H:Type}{enc:TypeId×Value→H}(os:Os):
 ∃(w:World)(tape:Tape)(i:Input),w.os=os∧(w.forCall tape i).Shaped Tryz.prog∧i.vars=[]∧Input.okWide Tryz.prog (w.forCall tape i) .any w.heap.size 3 i∧
  Rows.playDecodesRow.pre enc Tryz.prog Tryz.f3 (OpenSpec.ofChange Rows.playDecodesSpec) (w.forCall tape i).memory i.args∧Rows.playDecodesRow.assume.holds Tryz.prog (lone (Frame.enter Tryz.prog 3 i.args .normal) [] (w.forCall tape i)):=
 ⟨Bc os,fun _ _=>0,⟨#[],#[.int .u8 0,.int .u8 0,.int .u8 0,.int .u8 0,.slice none 0 0,.slice none 0 0,.slice none 0 0,.slice none 0 0],[]⟩,rfl,World.shaped_of_B (by kernel_rfl) (by kernel_rfl),rfl,(Input.okWide_of_okWideB (by kernel_rfl)).2,
  ⟨⟨ChangeSpec.pre_of_preB (s:=Rows.playDecodesSpec) (fuel:=8) (by kernel_rfl),(Bb _).2 (Kx os _)⟩,sizedMet_of_sizedB (fuel:=8) (by kernel_rfl)⟩,by
  simp only[Assume.holds]
  exact⟨by simp[Rows.playDecodesRow,OpenClaim.assume],fun _ _ _ _=>rfl,by simp[Rows.playDecodesRow,OpenClaim.assume],by simp[Rows.playDecodesRow,OpenClaim.assume],by simp[Rows.playDecodesRow,OpenClaim.assume]⟩⟩
theorem Iy{W:World}(hl:laidMet Tryz.prog Rows.playDecodesRow.laid W)(hs:W.ShapedOpen Tryz.prog):∃inst:Gw.de,(@Gw.Rs.env inst).inv W:=by
 let inst:Gw.de:=⟨W.heap[3]?,W.heap[0]?,W.heap[1]?⟩
 have h1:=(Lib.tabIs_of_head (k:= .u8) (zs:=Gw.nC) (g:=3) (t:=339) (e:=5) (n:=64) (by kernel_rfl) (by kernel_rfl) Tryz.underlying339 Tryz.underlying5 (by kernel_rfl) (by kernel_rfl) hl.tail:TabIs Tryz.prog W "math/bits.deBruijn64tab" .u8 Gw.nC)
 have h2:=(Lib.tabIs_of_head (k:= .u64) (zs:=Lib.pow10Tab) (g:=0) (t:=228) (e:=160) (n:=20) (by kernel_rfl) (by kernel_rfl) Tryz.underlying228 Tryz.underlying160 (by kernel_rfl) (by kernel_rfl) hl.tail.tail:TabIs Tryz.prog W "internal/strconv.uint64pow10" .u64 Lib.pow10Tab)
 refine⟨inst,⟨⟨fun i x hx=>?_,rfl⟩,⟨⟨h2,cell_of_shapedOpen_int (t:=3) (zero:=#[.int .i64 0]) hs (Nat.le_of_ble_eq_true (by kernel_rfl)) (by kernel_rfl) rfl (by kernel_rfl) (by kernel_rfl) Tryz.underlying3⟩,rfl,rfl⟩⟩⟩
 have hi:=(List.getElem?_eq_some_iff.1 hx).1
 have:=h1.cell (g:=3) (by kernel_rfl) i hi
 rw[this]
 congr 2
 rw[Gw.bF,hx];rfl
theorem KP{a:Assume}{C:Checked}{os:Os}{f:FuncId}{r:Reach}{Pre:World→Array Value→Prop}{Post:World→Array Value→Value→World→Prop}(own:ownKnob C.prog.godebug=none)(started:os.Started)(wB:C.prog.inits.idxOf? f=none)(witness:∃(w:World)(tape:Tape)(i:Input),w.os=os∧(w.forCall tape i).Shaped C.prog∧i.vars=[]∧Input.okWide C.prog (w.forCall tape i) r w.heap.size f i∧Pre (w.forCall tape i).memory i.args∧
 a.holds C.prog (lone (Frame.enter C.prog f i.args .normal) [] (w.forCall tape i)))(contract:∀(w:World)(tape:Tape)(i:Input),w.os=os→(w.forCall tape i).ShapedOpen C.prog→i.vars=[]→Input.okWide C.prog (w.forCall tape i) r w.heap.size f i→Pre (w.forCall tape i).memory i.args→
 Calls C.prog f i.args (w.forCall tape i) fun
  | .returned v,w'=>Post (w.forCall tape i).blind i.args v w'.blind
  |_,_=>False):ReturnsInLeavingWide a C os f r Pre Post:=fun enter=>by
 obtain⟨w0,t0,i0,a1,a2,a3,a4,a5,a6⟩:=witness
 refine⟨enter,own,started,⟨w0,t0,i0,a1,a2,a3,a4,a5,a6,trivial⟩,fun w tape i h=>?_⟩
 obtain⟨n,v,w',fr,hn,hend,hp⟩:=(contract w tape i h.1 h.2.1 h.2.2.1 h.2.2.2.1 h.2.2.2.2.1).done_lone wB
 obtain⟨q1,q2,q3⟩:=alone_of_lone (w':=w') hn
 exact⟨n+1,v,w',hend,(clean_of_lone hn).2,roomy_placeholder ..,hp,⟨n,_,hn,step_of_runs hn hend,q2,⟨by simp[lone],by simp[lone]⟩,q3⟩,fun _ _ _=>trivial⟩
theorem lifted(os:Os)(started:os.Started)(H:Type)(enc:TypeId×Value→H)(F:Stop.Interp):
 ReturnsInLeavingWide Rows.playDecodesRow.assume Tryz.checked os 3 .any (Rows.playDecodesRow.pre enc Tryz.prog Tryz.f3 (OpenSpec.ofChange Rows.playDecodesSpec)) ((OpenSpec.ofChange Rows.playDecodesSpec).postWith enc Tryz.prog Tryz.f3 F (outsideKept [.timePasses]) Rows.playDecodesRow.apart Rows.playDecodesRow.fresh Rows.playDecodesRow.handsOn):=by
 refine KP (C:=Tryz.checked) own started wB (witness os) ?_
 intro w tape i _ hshape _ hok hpre
 obtain⟨_,_,_,fn',hfn',_,_,_,_,hval0⟩:=hok
 obtain rfl:fn'=Tryz.f3:=Option.some.inj (hfn'.symm.trans Tryz.func3)
 obtain⟨⟨hp,hl0⟩,hz⟩:=hpre
 obtain⟨ds,gs,before,hw,hcnd⟩:=hp
 have hl:=laidMet.of_heap (w:=(w.forCall tape i).memory) (w':=w.forCall tape i) rfl ((Bb _).1 hl0)
 have hW:DataW.Whole enc Tryz.prog Tryz.f3.params.toList Rows.playDecodesSpec.vars false (w.forCall tape i) i.args.toList ds gs before:=DataW.Whole.of_heap (w':=w.forCall tape i) (by rfl) hw
 have hsz0:=hz.weights hw
 obtain⟨inst,henv⟩:=Iy hl hshape
 generalize w.forCall tape i=W at *
 generalize w.heap.size=base at *
 generalize i.args=args at *
 have hval:∀(j:Nat) t v,Tryz.f3.params[j]? =some t→args[j]? =some v→Value.okWide Tryz.prog W .any base t v:=hval0
 have hW':=hW
 obtain⟨p,q,hA0,hV,rfl,hfz,hnd⟩:=hW
 have hA:DataW.TrodAll enc Tryz.prog W 0 (fun _=>true) true Tryz.f3.params.toList args.toList ds p:=hA0
 have hsz:(DataW.weightsEach Tryz.prog (Tryz.f3.params.toList++Rows.playDecodesSpec.plain.varTypes Tryz.prog) (ds++gs)).all (·≤reachBytes)=true:=hsz0
 rw[Tryz.params3]at hA hval hsz
 obtain⟨v0,vs0,d0,ds0,p0,q0,hargs,rfl,rfl,h0,r0⟩:=trodAll_cons hA
 obtain⟨v1,vs1,d1,ds1,p1,q1,rfl,rfl,rfl,h1,r1⟩:=trodAll_cons r0
 obtain⟨v2,vs2,d2,ds2,p2,q2,rfl,rfl,rfl,h2,r2⟩:=trodAll_cons r1
 obtain⟨v3,vs3,d3,ds3,p3,q3,rfl,rfl,rfl,h3,r3⟩:=trodAll_cons r2
 obtain⟨v4,vs4,d4,ds4,p4,q4,rfl,rfl,rfl,h4,r4⟩:=trodAll_cons r3
 obtain⟨v5,vs5,d5,ds5,p5,q5,rfl,rfl,rfl,h5,r5⟩:=trodAll_cons r4
 obtain⟨v6,vs6,d6,ds6,p6,q6,rfl,rfl,rfl,h6,r6⟩:=trodAll_cons r5
 obtain⟨v7,vs7,d7,ds7,p7,q7,rfl,rfl,rfl,h7,r7⟩:=trodAll_cons r6
 obtain⟨rfl,rfl,rfl⟩:=trodAll_nil r7
 obtain rfl:args=#[v0,v1,v2,v3,v4,v5,v6,v7]:=by cases args;simp_all
 obtain⟨rfl,rfl⟩:=trodVars_none hV
 obtain⟨a0,rfl,rfl,rfl,w0⟩:=open_int Tryz.underlying5 (hval 0 5 v0 rfl rfl) h0
 have b0:=Gw.wf_u8 w0
 obtain⟨a1,rfl,rfl,rfl,w1⟩:=open_int Tryz.underlying5 (hval 1 5 v1 rfl rfl) h1
 have b1:=Gw.wf_u8 w1
 obtain⟨a2,rfl,rfl,rfl,w2⟩:=open_int Tryz.underlying5 (hval 2 5 v2 rfl rfl) h2
 have b2:=Gw.wf_u8 w2
 obtain⟨a3,rfl,rfl,rfl,w3⟩:=open_int Tryz.underlying5 (hval 3 5 v3 rfl rfl) h3
 have b3:=Gw.wf_u8 w3
 obtain⟨a4,R4,z4,b4⟩:=Gw.MZ (e:=(.int .u8)) (E:=5) (by_:=1) Tryz.underlying22 (by kernel_rfl) (by kernel_rfl) (Gw.M0 Tryz.underlying5) (hval 4 22 v4 rfl rfl) h4 hsz 4 rfl rfl
 obtain⟨a5,R5,z5,b5⟩:=Gw.MZ (e:=(.int .u8)) (E:=5) (by_:=1) Tryz.underlying22 (by kernel_rfl) (by kernel_rfl) (Gw.M0 Tryz.underlying5) (hval 5 22 v5 rfl rfl) h5 hsz 5 rfl rfl
 obtain⟨a6,R6,z6,b6⟩:=Gw.MZ (e:=(.int .u8)) (E:=5) (by_:=1) Tryz.underlying22 (by kernel_rfl) (by kernel_rfl) (Gw.M0 Tryz.underlying5) (hval 6 22 v6 rfl rfl) h6 hsz 6 rfl rfl
 obtain⟨a7,R7,z7,b7⟩:=Gw.MZ (e:=(.int .u8)) (E:=5) (by_:=1) Tryz.underlying22 (by kernel_rfl) (by kernel_rfl) (Gw.M0 Tryz.underlying5) (hval 7 22 v7 rfl rfl) h7 hsz 7 rfl rfl
 clear hA0 hval0 hsz0
 simp only[List.append_nil]at hW'
 refine(Gw.bj.calls (w0:=W) (k:=(1000000+a5.length)) (a0:=a0) (a1:=a1) (a2:=a2) (a3:=a3) (a4:=a4) (a5:=a5) (a6:=a6) (a7:=a7) henv R4 R5 R6 R7 (r:=true) (Gw.VW b0 b1 b2 b3 (Gw.F6 b4) (Gw.F6 b5) (Gw.F6 b6) (Gw.F6 b7) R5.lt)).mono fun e W' ⟨he,hg⟩=>?_
 subst he
 have hB:=Gw.IA hg henv
 refine postWith_blind (postWith_of_post ?_ ?_)
 ·have e:({W' with os:=W.os}:World)=W':=by rw[←hB.os]
  rw[e]
  exact Gw.KA laidOut (by kernel_rfl) (by kernel_rfl) Tryz.underlying4 rfl (by simpa using hW') rfl (by simp[Rows.playDecodesSpec]) rfl hB.below
 rw[hB.os];exact⟨0,rfl⟩
theorem over:Rows.playDecodesRow.holds Tryz.pinned (OpenSpec.ofChange Rows.playDecodesSpec):=
 OpenClaim.holds_of_wide_leaving_time 3 Tryz.f3 rfl rfl rfl rfl rfl rfl rfl ⟨rfl,rfl,rfl,rfl,rfl⟩ rfl rfl rfl rfl rfl (by kernel_rfl) Tryz.func3 closed
  (of_decide_eq_true (by kernel_rfl)) (by unfold Func.isWrapper;first|(rw[if_pos (by decide+kernel)];kernel_rfl)|(rw[if_neg (by decide+kernel)];exact⟨rfl,rfl⟩))
  (fun os started H enc _ F=>lifted os started H enc F)
theorem JC(Lk:Looks){p:Pinned}{s:OpenSpec}{c:OpenClaim}(kinds:List LaidKind)(tests:Bool)(har:Bool×String)(lk:Bool)(hc:c.holds p s)(hw:c.wfByText s=true)(htie:c.laidByTextAt Lk p kinds tests)(hst:c.start= .entering)(hnb:c.noBlocks=false∧c.again=false)(hm:p.checked.prog.mainIs=some (har.1,har.2.toList))(hn:(!har.1&&har.2.isEmpty&&!lk)=false)(hl:∀f fn,p.checked.prog.funcNamed c.func=some f→p.checked.prog.funcs[f]? =some fn→lk=p.checked.prog.looks []∧∀(j:Nat) t,fn.params[j]? =some t→p.checked.prog.wantsStandIn t=false)(hg:true=c.goesBy p.checked.prog):
 Claim7.holds p (.plain s) {stood:={row:=c,standIns:=[],harness:=har,looks:=lk},kinds:=[],alts:=[],goes:=true,laidByText:=true,laidKinds:=kinds,laidTests:=tests,laidLooks:=Lk}:=by
 have h6:∀r:OpenClaim,Claim7.isSixth {stood:={row:=r,standIns:=[],harness:=har,looks:=lk},kinds:=[]}=false:=fun r=>by simpa [Claim7.isSixth] using hn
 exact⟨Claim7.tied_new_at Lk kinds tests (Claim7.new_of_sixth hc har lk hst hnb hm (h6 c) hl) hw,(fun D hD=>by cases hD),htie,(fun h=>by cases h),hg⟩
theorem cl1:Rows.playDecodesRow.wfByText (OpenSpec.ofChange Rows.playDecodesSpec)=true:=by kernel_rfl
theorem cl2:Tryz.pinned.checked.prog.mainIs=some ((true,"9c83ab49001b806314f2cf8e7a853318500b44af97b4245473db5c5f6e6ba126").1,(true,"9c83ab49001b806314f2cf8e7a853318500b44af97b4245473db5c5f6e6ba126").2.toList):=by kernel_rfl
theorem cl3:true=Tryz.pinned.checked.prog.looks []:=by kernel_rfl
theorem cl4:Tryz.prog.funcNamed "erratum/erratumlaw24.PlayDecodes" =some 3:=by kernel_rfl
theorem cl5:(Tryz.f3.params.toList.all fun t=>!Tryz.prog.wantsStandIn t)=true:=by kernel_rfl
theorem cl6:true=Rows.playDecodesRow.goesBy Tryz.pinned.checked.prog:=by kernel_rfl
/-- THE STATEMENT -/
theorem proved:Rows.PlayDecodesCardSaid:=
 JC .later [.data,.data,.data,.data,.sentinel,.sentinel,.pinned] true (true,"9c83ab49001b806314f2cf8e7a853318500b44af97b4245473db5c5f6e6ba126") true over cl1 playDecodes_row_tie rfl ⟨rfl,rfl⟩ cl2 rfl
  (fun f fn hf hfn=>by
   obtain rfl:f=3:=Option.some.inj (cl4.symm.trans hf)|>.symm
   obtain rfl:fn=Tryz.f3:=(Option.some.inj (Tryz.func3.symm.trans hfn)).symm
   refine⟨cl3,fun j t ht=>?_⟩
   have hm:t∈Tryz.f3.params.toList:=Array.mem_toList_iff.2 (Array.mem_of_getElem? ht)
   have:=List.all_eq_true.1 cl5 t hm
   show Tryz.prog.wantsStandIn t=false
   simpa using this)
  cl6
#print axioms proved
end Go.Proofs.YtmhkpafkadijgaaGreatDoor.playDecodes
