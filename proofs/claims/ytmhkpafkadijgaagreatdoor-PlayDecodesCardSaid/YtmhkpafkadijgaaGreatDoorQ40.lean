/- A part of the proof of Rows.PlayDecodesCardSaid; the conditions are that card's own. -/
import Derived.Test.YtmhkpafkadijgaaGreatDoorQ37
set_option linter.all false
set_option maxRecDepth 100000
namespace Go.Proofs.YtmhkpafkadijgaaGreatDoor.Gw
open Go Go.RowKit GF
theorem VZ(k:Nat):LS (PW.take 13) 4 (Ro (k+5000))=true:=d_
theorem V0(k:Nat):LS (PW.take 14) 4 (Ro (k+5000))=true:=d_
theorem V1(k:Nat):LS (PW.take 15) 4 (Ro (k+5000))=true:=d_
theorem V2(k:Nat):LS (PW.take 16) 4 (Ro (k+5000))=true:=d_
theorem V3(k:Nat):LS (PW.take 17) 4 (Ro (k+5000))=true:=d_
theorem V4(k:Nat):LS (PW.take 18) 4 (Ro (k+5000))=true:=d_
theorem V5(k:Nat):LS (PW.take 19) 4 (Ro (k+5000))=true:=d_
end Go.Proofs.YtmhkpafkadijgaaGreatDoor.Gw
