/- A part of the proof of Rows.PlayDecodesCardSaid; the conditions are that card's own. -/
import Derived.Test.YtmhkpafkadijgaaGreatDoorQ37
set_option linter.all false
set_option maxRecDepth 100000
namespace Go.Proofs.YtmhkpafkadijgaaGreatDoor.Gw
open Go Go.RowKit GF
theorem Yc(k:Nat):LS [4,8,16,32,64,128,29,58,116,232,205,135,19,38,76,152,45,90,180] 4 (fun y=>Ro (k+5000) (1::2::y))=true:=d_
theorem Ye(k:Nat):LS [2,4,8,16,32,64,128,29,58,116,232,205,135,19,38,76,152,45,90,180] 3 (Ro (k+5000))=true:=d_
theorem Yf(k:Nat):LS [4,8,16,32,64,128,29,58,116,232,205,135,19,38,76,152,45,90,180] 3 (fun y=>Ro (k+5000) (1::y))=true:=d_
theorem V7(k:Nat):LS (PW.take 21) 4 (Ro (k+5000))=true:=
 Sm 3 1 [2,4,8,16,32,64,128,29,58,116,232,205,135,19,38,76,152,45,90,180] (Ro (k+5000)) (Sm 3 2 [4,8,16,32,64,128,29,58,116,232,205,135,19,38,76,152,45,90,180] (fun y=>Ro (k+5000) (1::y)) (Yc k) (Yf k)) (Ye k)
end Go.Proofs.YtmhkpafkadijgaaGreatDoor.Gw
