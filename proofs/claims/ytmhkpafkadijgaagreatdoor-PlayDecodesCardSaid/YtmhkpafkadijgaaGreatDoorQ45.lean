/- A part of the proof of Rows.PlayDecodesCardSaid; the conditions are that card's own. -/
import Derived.Test.YtmhkpafkadijgaaGreatDoorQ43
import Derived.Test.YtmhkpafkadijgaaGreatDoorQ44
import Derived.Test.YtmhkpafkadijgaaGreatDoorQ47
set_option linter.all false
set_option maxRecDepth 100000
namespace Go.Proofs.YtmhkpafkadijgaaGreatDoor.Gw
open Go Go.RowKit GF
theorem Y5(k:Nat):LS [116,232,205,135,19,38,76,152,45,90,180,117] 4 (fun y=>Ro (k+5000) (1::2::4::8::16::32::64::128::29::58::y))=true:=d_
theorem V8(k:Nat):LS (PW.take 22) 4 (Ro (k+5000))=true:=
 Sm 3 _ _ _ (Sm 3 _ _ _ (Sm 3 _ _ _ (Sm 3 _ _ _ (Sm 3 _ _ _ (Sm 3 _ _ _ (Sm 3 _ _ _ (Sm 3 _ _ _ (Sm 3 _ _ _ (Sm 3 _ _ _ (Y5 k) (Y7 k)) (Y6 k)) (Yn k)) (Ym k)) (Yl k)) (Yk k)) (Yj k)) (Yi k)) (Yh k)) (Yg k)
end Go.Proofs.YtmhkpafkadijgaaGreatDoor.Gw
