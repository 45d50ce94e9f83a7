/- A part of the proof of Rows.PlayDecodesCardSaid; the conditions are that card's own. -/
import Derived.Test.YtmhkpafkadijgaaGreatDoorQ37
set_option linter.all false
set_option maxRecDepth 100000
namespace Go.Proofs.YtmhkpafkadijgaaGreatDoor.Gw
open Go Go.RowKit GF
theorem Yn(k:Nat):LS [29,58,116,232,205,135,19,38,76,152,45,90,180,117] 3 (fun y=>Ro (k+5000) (1::2::4::8::16::32::64::y))=true:=d_
theorem Y6(k:Nat):LS [58,116,232,205,135,19,38,76,152,45,90,180,117] 3 (fun y=>Ro (k+5000) (1::2::4::8::16::32::64::128::y))=true:=d_
theorem Y7(k:Nat):LS [116,232,205,135,19,38,76,152,45,90,180,117] 3 (fun y=>Ro (k+5000) (1::2::4::8::16::32::64::128::29::y))=true:=d_
end Go.Proofs.YtmhkpafkadijgaaGreatDoor.Gw
