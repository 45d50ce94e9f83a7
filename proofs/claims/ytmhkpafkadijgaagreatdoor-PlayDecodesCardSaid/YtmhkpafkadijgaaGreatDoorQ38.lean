/- A part of the proof of Rows.PlayDecodesCardSaid; the conditions are that card's own. -/
import Derived.Test.YtmhkpafkadijgaaGreatDoorRows
import Derived.JoinedOf
import Derived.KernelRfl
set_option linter.all false
set_option maxRecDepth 100000
namespace Go.Proofs.YtmhkpafkadijgaaGreatDoor.playDecodes
open Go
theorem dr{a b:Bool}(ha:a=true)(hb:b=true):(a&&b)=true:=by rw[ha,hb];rfl
theorem k0:(Rows.playDecodesRow.wf (OpenSpec.ofChange Rows.playDecodesSpec))=true:=by kernel_rfl
theorem k1:(laidOutB Tryz.prog)=true:=by kernel_rfl
theorem k2:(mapsRowed Tryz.prog)=true:=by kernel_rfl
theorem k3:(Tryz.f3.params.all (Tryz.prog.readableRec ·))=true:=by kernel_rfl
theorem k4:(namedTie Tryz.prog Rows.playDecodesRow.named Rows.playDecodesSpec.vars)=true:=by kernel_rfl
theorem k5:(Rows.playDecodesRow.stops==[])=true:=by kernel_rfl
theorem k6:(Tryz.prog.stops==[])=true:=by kernel_rfl
theorem k7:(Rows.playDecodesRow.knobs==[])=true:=by kernel_rfl
theorem k8:(Tryz.prog.stopKnobs==[])=true:=by kernel_rfl
theorem k9:(Rows.playDecodesRow.inPlace==Tryz.prog.inPlace 3)=true:=by kernel_rfl
theorem k10:(Rows.playDecodesRow.unfollowed==Tryz.prog.unfollowed 3)=true:=by kernel_rfl
theorem k11:(Rows.playDecodesRow.recurses==Tryz.prog.recurses 3)=true:=by kernel_rfl
theorem k12:(Rows.playDecodesRow.named==Tryz.prog.varsNamed 3)=true:=by kernel_rfl
theorem k13:(Rows.playDecodesRow.maps==(Tryz.f3.params.toList++Rows.playDecodesSpec.plain.varTypes Tryz.prog).any (Tryz.prog.mapsRec ·))=true:=by kernel_rfl
theorem k14:(Rows.playDecodesRow.ifaces==(Tryz.f3.params.toList++Rows.playDecodesSpec.plain.varTypes Tryz.prog).any (Tryz.prog.ifacesRec ·))=true:=by kernel_rfl
theorem k15:(Rows.playDecodesRow.mapsOut==Tryz.prog.mapsAmong Tryz.f3.resultTypes.toList)=true:=by kernel_rfl
theorem k16:(Rows.playDecodesRow.loops==(Tryz.f3.params.toList++Rows.playDecodesSpec.plain.varTypes Tryz.prog).any (Tryz.prog.loopsFrom ·))=true:=by kernel_rfl
theorem k17:(Rows.playDecodesRow.wideKeys==(Tryz.f3.params.toList++Rows.playDecodesSpec.plain.varTypes Tryz.prog++Tryz.f3.resultTypes.toList).any (Tryz.prog.wideKeysFrom ·))=true:=by kernel_rfl
theorem k18:(Rows.playDecodesSpec.vars.all (Tryz.prog.varReadable ·))=true:=by kernel_rfl
theorem k19:(Tryz.f3.resultTypes.all (fun t=>Tryz.prog.readableRec t&&decide (t<Tryz.prog.types.size)))=true:=by kernel_rfl
theorem k20:(Rows.playDecodesRow.ifacesOut==Tryz.f3.resultTypes.toList.any (Tryz.prog.ifacesRec ·))=true:=by kernel_rfl
theorem k21:(Rows.playDecodesRow.loopsOut==Tryz.f3.resultTypes.toList.any (Tryz.prog.loopsFrom ·))=true:=by kernel_rfl
theorem k22:(Rows.playDecodesRow.plainKeys==Tryz.prog.plainKeys)=true:=by kernel_rfl
theorem k23:(Rows.playDecodesRow.shortTexts.isNone)=true:=by kernel_rfl
theorem k24:(Tryz.prog.stopsHeard)=true:=by kernel_rfl
theorem k25:(Tryz.prog.mayEnter)=true:=by kernel_rfl
theorem k26:(Rows.playDecodesRow.lifted==Tryz.prog.liftsFinal)=true:=by kernel_rfl
theorem k27:(Tryz.prog.make==some Rows.playDecodesRow.make)=true:=by kernel_rfl
theorem k28:(Rows.playDecodesRow.kinds==(if Rows.playDecodesRow.domain.isEmpty then []else Tryz.f3.params.toList.map fun t=>match Tryz.prog.underlying t with|some (.int k)=>some k|_=>none))=true:=by kernel_rfl
theorem k29:(Rows.playDecodesRow.pinned==Rows.playDecodesRow.pinnedBy)=true:=by kernel_rfl
theorem k30:(Rows.playDecodesRow.veiled==(Tryz.f3.params.toList++Rows.playDecodesSpec.plain.varTypes Tryz.prog++Tryz.f3.resultTypes.toList).any (Tryz.prog.veiledRec ·))=true:=by kernel_rfl
theorem k31:(Rows.playDecodesRow.veiledFits Tryz.prog Tryz.f3.params.toList (Tryz.f3.params.toList++Rows.playDecodesSpec.plain.varTypes Tryz.prog++Tryz.f3.resultTypes.toList))=true:=by kernel_rfl
theorem closed:joinedFacts Tryz.prog 3 Tryz.f3 Rows.playDecodesSpec Rows.playDecodesRow=true:=by
 unfold joinedFacts
 exact(dr (dr (dr (dr (dr (dr (dr (dr (dr (dr (dr (dr (dr (dr (dr (dr (dr (dr (dr (dr (dr (dr (dr (dr (dr (dr (dr (dr (dr (dr (dr k0 k1) k2) k3) k4) k5) k6) k7) k8) k9) k10) k11) k12) k13) k14) k15) k16) k17) k18) k19) k20) k21) k22) k23) k24) k25) k26) k27) k28) k29) k30) k31)
end Go.Proofs.YtmhkpafkadijgaaGreatDoor.playDecodes
