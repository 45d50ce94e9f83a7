/- A part of the proof of Rows.PlayDecodesCardSaid; the conditions are that card's own. -/
import Derived.Test.YtmhkpafkadijgaaGreatDoorQ37
set_option linter.all false
set_option maxRecDepth 100000
namespace Go.Proofs.YtmhkpafkadijgaaGreatDoor.Gw
open Go Go.RowKit GF
theorem Yg(k:Nat):LS [2,4,8,16,32,64,128,29,58,116,232,205,135,19,38,76,152,45,90,180,117] 3 (Ro (k+5000))=true:=d_
theorem Yh(k:Nat):LS [4,8,16,32,64,128,29,58,116,232,205,135,19,38,76,152,45,90,180,117] 3 (fun y=>Ro (k+5000) (1::y))=true:=d_
theorem Yi(k:Nat):LS [8,16,32,64,128,29,58,116,232,205,135,19,38,76,152,45,90,180,117] 3 (fun y=>Ro (k+5000) (1::2::y))=true:=d_
end Go.Proofs.YtmhkpafkadijgaaGreatDoor.Gw
