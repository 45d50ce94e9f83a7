/- A part of the proof of Rows.PlayAskedCardSaid; the conditions are that card's own. -/
import Derived.Test.YtmhkpafkadijgaaGreatDoorRows
import Derived.JoinedOf
import Derived.KernelRfl
set_option linter.all false
set_option maxRecDepth 100000
namespace Go.Proofs.YtmhkpafkadijgaaGreatDoor.playAsked
open Go
theorem dr{a b:Bool}(ha:a=true)(hb:b=true):(a&&b)=true:=by rw[ha,hb];rfl
theorem k0:(Rows.playAskedRow.wf (OpenSpec.ofChange Rows.playAskedSpec))=true:=by kernel_rfl
theorem k1:(laidOutB Tryz.prog)=true:=by kernel_rfl
theorem k2:(mapsRowed Tryz.prog)=true:=by kernel_rfl
theorem k3:(Tryz.f4.params.all (Tryz.prog.readableRec ·))=true:=by kernel_rfl
theorem k4:(namedTie Tryz.prog Rows.playAskedRow.named Rows.playAskedSpec.vars)=true:=by kernel_rfl
theorem k5:(Rows.playAskedRow.stops==[])=true:=by kernel_rfl
theorem k6:(Tryz.prog.stops==[])=true:=by kernel_rfl
theorem k7:(Rows.playAskedRow.knobs==[])=true:=by kernel_rfl
theorem k8:(Tryz.prog.stopKnobs==[])=true:=by kernel_rfl
theorem k9:(Rows.playAskedRow.inPlace==Tryz.prog.inPlace 4)=true:=by kernel_rfl
theorem k10:(Rows.playAskedRow.unfollowed==Tryz.prog.unfollowed 4)=true:=by kernel_rfl
theorem k11:(Rows.playAskedRow.recurses==Tryz.prog.recurses 4)=true:=by kernel_rfl
theorem k12:(Rows.playAskedRow.named==Tryz.prog.varsNamed 4)=true:=by kernel_rfl
theorem k13:(Rows.playAskedRow.maps==(Tryz.f4.params.toList++Rows.playAskedSpec.plain.varTypes Tryz.prog).any (Tryz.prog.mapsRec ·))=true:=by kernel_rfl
theorem k14:(Rows.playAskedRow.ifaces==(Tryz.f4.params.toList++Rows.playAskedSpec.plain.varTypes Tryz.prog).any (Tryz.prog.ifacesRec ·))=true:=by kernel_rfl
theorem k15:(Rows.playAskedRow.mapsOut==Tryz.prog.mapsAmong Tryz.f4.resultTypes.toList)=true:=by kernel_rfl
theorem k16:(Rows.playAskedRow.loops==(Tryz.f4.params.toList++Rows.playAskedSpec.plain.varTypes Tryz.prog).any (Tryz.prog.loopsFrom ·))=true:=by kernel_rfl
theorem k17:(Rows.playAskedRow.wideKeys==(Tryz.f4.params.toList++Rows.playAskedSpec.plain.varTypes Tryz.prog++Tryz.f4.resultTypes.toList).any (Tryz.prog.wideKeysFrom ·))=true:=by kernel_rfl
theorem k18:(Rows.playAskedSpec.vars.all (Tryz.prog.varReadable ·))=true:=by kernel_rfl
theorem k19:(Tryz.f4.resultTypes.all (fun t=>Tryz.prog.readableRec t&&decide (t<Tryz.prog.types.size)))=true:=by kernel_rfl
theorem k20:(Rows.playAskedRow.ifacesOut==Tryz.f4.resultTypes.toList.any (Tryz.prog.ifacesRec ·))=true:=by kernel_rfl
theorem k21:(Rows.playAskedRow.loopsOut==Tryz.f4.resultTypes.toList.any (Tryz.prog.loopsFrom ·))=true:=by kernel_rfl
theorem k22:(Rows.playAskedRow.plainKeys==Tryz.prog.plainKeys)=true:=by kernel_rfl
theorem k23:(Rows.playAskedRow.shortTexts.isNone)=true:=by kernel_rfl
theorem k24:(Tryz.prog.stopsHeard)=true:=by kernel_rfl
theorem k25:(Tryz.prog.mayEnter)=true:=by kernel_rfl
theorem k26:(Rows.playAskedRow.lifted==Tryz.prog.liftsFinal)=true:=by kernel_rfl
theorem k27:(Tryz.prog.make==some Rows.playAskedRow.make)=true:=by kernel_rfl
theorem k28:(Rows.playAskedRow.kinds==(if Rows.playAskedRow.domain.isEmpty then []else Tryz.f4.params.toList.map fun t=>match Tryz.prog.underlying t with|some (.int k)=>some k|_=>none))=true:=by kernel_rfl
theorem k29:(Rows.playAskedRow.pinned==Rows.playAskedRow.pinnedBy)=true:=by kernel_rfl
theorem k30:(Rows.playAskedRow.veiled==(Tryz.f4.params.toList++Rows.playAskedSpec.plain.varTypes Tryz.prog++Tryz.f4.resultTypes.toList).any (Tryz.prog.veiledRec ·))=true:=by kernel_rfl
theorem k31:(Rows.playAskedRow.veiledFits Tryz.prog Tryz.f4.params.toList (Tryz.f4.params.toList++Rows.playAskedSpec.plain.varTypes Tryz.prog++Tryz.f4.resultTypes.toList))=true:=by kernel_rfl
theorem closed:joinedFacts Tryz.prog 4 Tryz.f4 Rows.playAskedSpec Rows.playAskedRow=true:=by
 unfold joinedFacts
 exact(dr (dr (dr (dr (dr (dr (dr (dr (dr (dr (dr (dr (dr (dr (dr (dr (dr (dr (dr (dr (dr (dr (dr (dr (dr (dr (dr (dr (dr (dr (dr k0 k1) k2) k3) k4) k5) k6) k7) k8) k9) k10) k11) k12) k13) k14) k15) k16) k17) k18) k19) k20) k21) k22) k23) k24) k25) k26) k27) k28) k29) k30) k31)
end Go.Proofs.YtmhkpafkadijgaaGreatDoor.playAsked
