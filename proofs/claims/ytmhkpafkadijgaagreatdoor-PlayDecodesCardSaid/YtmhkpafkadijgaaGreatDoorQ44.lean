/- A part of the proof of Rows.PlayDecodesCardSaid; the conditions are that card's own. -/
import Derived.Test.YtmhkpafkadijgaaGreatDoorQ37
set_option linter.all false
set_option maxRecDepth 100000
namespace Go.Proofs.YtmhkpafkadijgaaGreatDoor.Gw
open Go Go.RowKit GF
theorem Yj(k:Nat):LS [16,32,64,128,29,58,116,232,205,135,19,38,76,152,45,90,180,117] 3 (fun y=>Ro (k+5000) (1::2::4::y))=true:=d_
theorem Yk(k:Nat):LS [32,64,128,29,58,116,232,205,135,19,38,76,152,45,90,180,117] 3 (fun y=>Ro (k+5000) (1::2::4::8::y))=true:=d_
theorem Yl(k:Nat):LS [64,128,29,58,116,232,205,135,19,38,76,152,45,90,180,117] 3 (fun y=>Ro (k+5000) (1::2::4::8::16::y))=true:=d_
theorem Ym(k:Nat):LS [128,29,58,116,232,205,135,19,38,76,152,45,90,180,117] 3 (fun y=>Ro (k+5000) (1::2::4::8::16::32::y))=true:=d_
end Go.Proofs.YtmhkpafkadijgaaGreatDoor.Gw
