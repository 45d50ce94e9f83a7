/- A part of the proof of Rows.PlayDecodesCardSaid; the conditions are that card's own. -/
import Derived.Test.YtmhkpafkadijgaaGreatDoorQ37
set_option linter.all false
set_option maxRecDepth 100000
namespace Go.Proofs.YtmhkpafkadijgaaGreatDoor.Gw
open Go Go.RowKit GF
theorem V6(k:Nat):LS (PW.take 20) 4 (Ro (k+5000))=true:=d_
end Go.Proofs.YtmhkpafkadijgaaGreatDoor.Gw
