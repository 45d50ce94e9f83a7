/- A part of the proof of Rows.PlayDecodesCardSaid; the conditions are that card's own. -/
import Derived.Test.YtmhkpafkadijgaaGreatDoorQ40
import Derived.Test.YtmhkpafkadijgaaGreatDoorQ41
import Derived.Test.YtmhkpafkadijgaaGreatDoorQ42
import Derived.Test.YtmhkpafkadijgaaGreatDoorQ45
import Derived.Test.YtmhkpafkadijgaaGreatDoorQ36
set_option linter.all false
namespace Go.Proofs.YtmhkpafkadijgaaGreatDoor.Gw
open Go Go.RowKit GF
theorem Yq:Su:=by
 intro N e h2 h22 hn hb he
 have hlen:=TD hn hb
 have hxn:((gA N e).map (pow al)).Nodup:=SY qA (Sk (by omega)) (List.nodup_range.filter _) fun i hi=>(Sn.1 hi).1
 have hln:((gA N e).map fun i=>PW.getD i 0).length=(gA N e).length:=List.length_map _
 have hL:bi ((gA N e).map (pow al))=((gA N e).map fun i=>PW.getD i 0).map fun n:Nat=>(n:Int):=by
  unfold bi
  rw[List.map_map,List.map_map]
  refine List.map_congr_left fun i hi=>?_
  show(((pow al i).1:Nat):Int)=((PW.getD i 0:Nat):Int)
  rw[XC (by have:=(Sn.1 hi).1;omega)]
 have hmem:((gA N e).map fun i=>PW.getD i 0)∈RQ 4 (PW.take N):=by
  rw[←XE h22,T3]
  refine List.mem_map.2 ⟨gA N e,T4 _ _ 4 ?_,rfl⟩
  rw[List.length_range]
  unfold gA at hlen;omega
 have hok:∀k,Ro (k+5000) ((gA N e).map fun i=>PW.getD i 0)=true:=fun k=>by
  by_cases h12:((gA N e).map fun i=>PW.getD i 0).length≤12
  ·unfold Ro;rw[SX,Nat.ble_eq_true_of_le h12];rfl
  rcases(by omega:N=13∨N=14∨N=15∨N=16∨N=17∨N=18∨N=19∨N=20∨N=21∨N=22)with rfl|rfl|rfl|rfl|rfl|rfl|rfl|rfl|rfl|rfl
  ·exact Sd _ _ _ (VZ k) _ hmem
  ·exact Sd _ _ _ (V0 k) _ hmem
  ·exact Sd _ _ _ (V1 k) _ hmem
  ·exact Sd _ _ _ (V2 k) _ hmem
  ·exact Sd _ _ _ (V3 k) _ hmem
  ·exact Sd _ _ _ (V4 k) _ hmem
  ·exact Sd _ _ _ (V5 k) _ hmem
  ·exact Sd _ _ _ (V6 k) _ hmem
  ·exact Sd _ _ _ (V7 k) _ hmem
  exact Sd _ _ _ (V8 k) _ hmem
 obtain⟨s,s1,s2⟩:=Yr (by omega) hok
 rw[←hL]at s1 s2
 rw[hln]at s2
 have hsl:=s1.length_eq
 rw[YO]at hsl
 have hsn:s.Nodup:=s1.nodup_iff.2 (by
  unfold bi
  refine List.pairwise_map.2 ((List.nodup_iff_pairwise_ne.1 hxn).imp fun{a b} hab e=>hab (GF.ext (by omega))))
 refine⟨s,lm (gA N e).length,hsl,fun i h0 hi=>VY hsn i h0 hi,?_,fun k hk=>?_⟩
 ·rw[List.length_map];exact(Uy (by omega)).1
 rw[List.length_map];exact s2 k hk
theorem F6{l:List Int}(h:∀a∈l,(Lit.int .u8 a).wf=true):cR l=true:=by
 rw[cR,Y_]
 intro a ha
 have:=h a ha
 simp[Lit.wf,IntKind.min,IntKind.max,IntKind.signed,IntKind.bits]at this
 exact qF.2 ⟨a_,a_⟩
theorem VW{a0 a1 a2 a3:Int}{l4 l5 l6 l7:List Int}(b0:0≤a0∧a0≤255)(b1:0≤a1∧a1≤255)(b2:0≤a2∧a2≤255)(b3:0≤a3∧a3≤255)(h4:cR l4=true)(h5:cR l5=true)(h6:cR l6=true)(h7:cR l7=true)(hl:l5.length≤maxLen):bj.f (1000000+l5.length) a0 a1 a2 a3 l4 l5 l6 l7=some true:=VV Yq b0 b1 b2 b3 h4 h5 h6 h7 (Nat.le_trans hl (by decide))
end Go.Proofs.YtmhkpafkadijgaaGreatDoor.Gw
