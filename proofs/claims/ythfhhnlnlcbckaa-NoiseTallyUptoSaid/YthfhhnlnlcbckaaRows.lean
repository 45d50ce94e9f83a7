/-
  No cell of these rows narrows 'for every input' (looked for: loops, veiled, ifaces, maps, wideKeys, modest, calm, conditions, laid).
  DERIVED. THE GIVEN ROWS OF THIS SEAT. 9 by the template 'for every input the law returns true; each argument reads behind the call as it read before'; 0 by the template 'total and deterministic' (their statements: YthfhhnlnlcbckaaTotals.lean).
  GIVEN WITH THE SEED: the statements are not yours to turn. If you find one false, say at which input.
  Laid BY PROGRAM, IN A SANDBOX (cutbox-rows.mjs): the forced cells as the released guide's own fill.sh prints them over the translation ae959c6efc1ebaa7… (all of the seat's roots in one cut). By AI agents, Wed Nov 11 2026. No macro, syntax, notation, axiom, sorry.
-/
import Derived.Test.YthfhhnlnlcbckaaChecked
import GoSem.Claim
import GoSem.ClaimJoined
import GoSem.ClaimMapViews
import Derived.JoinedTies
import Derived.KernelRfl
namespace Go.Proofs.Ythfhhnlnlcbckaa
/- THE CELL 'sum', in the pinned program and in every row, IS THE sha256 OF THE DUMP (.gsa) THAT YthfhhnlnlcbckaaProg.lean LOADS. Nothing in Lean hashes anything: it is a label: what it is worth is what the hold of that sum in a sandbox is worth. -/
noncomputable def Try.pinned : Pinned := { name := "ythfhhnlnlcbckaa", sum := "ae959c6efc1ebaa72e1d7f02d22039ac5a2c64ff68ada6ab3eda3af7bdaf34f0", checked := Try.checked }
namespace Rows
def none {H : Type} : Left H := { results := [], args := [] }

/-- 'erratumlaw19.PickAsks': WHATEVER THE INPUT: true; the input reads as it did. -/
def pickAsksSpec : ChangeSpec := { name := "pickAsks", fn := fun _ => fun
  | [d1, d2, d3, d4, d5, d6, d7, d8] => { results := [.lit (.bool true)], args := [d1, d2, d3, d4, d5, d6, d7, d8] }
  | _ => none }
def pickAsksRow : OpenClaim := { program := "ythfhhnlnlcbckaa", sum := "ae959c6efc1ebaa72e1d7f02d22039ac5a2c64ff68ada6ab3eda3af7bdaf34f0", func := "erratum/erratumlaw19.PickAsks", spec := "pickAsks", unfollowed := true, recurses := true, apart := false }
def PickAsksSaid : Prop := pickAsksRow.holds Try.pinned (OpenSpec.ofChange pickAsksSpec)

/-- ITS FALSE NEIGHBOUR: 'it returns false'. Refute it at one input. -/
def pickAsksWrong : ChangeSpec := { name := "pickAsks", fn := fun _ => fun
  | [d1, d2, d3, d4, d5, d6, d7, d8] => { results := [.lit (.bool false)], args := [d1, d2, d3, d4, d5, d6, d7, d8] }
  | _ => none }
def PickAsksWrongFalsely : Prop := pickAsksRow.holds Try.pinned (OpenSpec.ofChange pickAsksWrong)

/-- 'erratumlaw19.PickKeeps': WHATEVER THE INPUT: true; the input reads as it did. -/
def pickKeepsSpec : ChangeSpec := { name := "pickKeeps", fn := fun _ => fun
  | [d1, d2, d3, d4, d5] => { results := [.lit (.bool true)], args := [d1, d2, d3, d4, d5] }
  | _ => none }
def pickKeepsRow : OpenClaim := { program := "ythfhhnlnlcbckaa", sum := "ae959c6efc1ebaa72e1d7f02d22039ac5a2c64ff68ada6ab3eda3af7bdaf34f0", func := "erratum/erratumlaw19.PickKeeps", spec := "pickKeeps", unfollowed := true, recurses := true, apart := false }
def PickKeepsSaid : Prop := pickKeepsRow.holds Try.pinned (OpenSpec.ofChange pickKeepsSpec)

/-- ITS FALSE NEIGHBOUR: 'it returns false'. Refute it at one input. -/
def pickKeepsWrong : ChangeSpec := { name := "pickKeeps", fn := fun _ => fun
  | [d1, d2, d3, d4, d5] => { results := [.lit (.bool false)], args := [d1, d2, d3, d4, d5] }
  | _ => none }
def PickKeepsWrongFalsely : Prop := pickKeepsRow.holds Try.pinned (OpenSpec.ofChange pickKeepsWrong)

/-- 'erratumlaw19.PickAll': WHATEVER THE INPUT: true; the input reads as it did. -/
def pickAllSpec : ChangeSpec := { name := "pickAll", fn := fun _ => fun
  | [d] => { results := [.lit (.bool true)], args := [d] }
  | _ => none }
def pickAllRow : OpenClaim := { program := "ythfhhnlnlcbckaa", sum := "ae959c6efc1ebaa72e1d7f02d22039ac5a2c64ff68ada6ab3eda3af7bdaf34f0", func := "erratum/erratumlaw19.PickAll", spec := "pickAll", unfollowed := true, recurses := true, apart := false }
def PickAllSaid : Prop := pickAllRow.holds Try.pinned (OpenSpec.ofChange pickAllSpec)

/-- ITS FALSE NEIGHBOUR: 'it returns false'. Refute it at one input. -/
def pickAllWrong : ChangeSpec := { name := "pickAll", fn := fun _ => fun
  | [d] => { results := [.lit (.bool false)], args := [d] }
  | _ => none }
def PickAllWrongFalsely : Prop := pickAllRow.holds Try.pinned (OpenSpec.ofChange pickAllWrong)

/-- 'erratumlaw19.PickErrors': WHATEVER THE INPUT: true; the input reads as it did. -/
def pickErrorsSpec : ChangeSpec := { name := "pickErrors", fn := fun _ => fun
  | [d1, d2, d3, d4, d5, d6] => { results := [.lit (.bool true)], args := [d1, d2, d3, d4, d5, d6] }
  | _ => none }
def pickErrorsRow : OpenClaim := { program := "ythfhhnlnlcbckaa", sum := "ae959c6efc1ebaa72e1d7f02d22039ac5a2c64ff68ada6ab3eda3af7bdaf34f0", func := "erratum/erratumlaw19.PickErrors", spec := "pickErrors", unfollowed := true, recurses := true, apart := false }
def PickErrorsSaid : Prop := pickErrorsRow.holds Try.pinned (OpenSpec.ofChange pickErrorsSpec)

/-- ITS FALSE NEIGHBOUR: 'it returns false'. Refute it at one input. -/
def pickErrorsWrong : ChangeSpec := { name := "pickErrors", fn := fun _ => fun
  | [d1, d2, d3, d4, d5, d6] => { results := [.lit (.bool false)], args := [d1, d2, d3, d4, d5, d6] }
  | _ => none }
def PickErrorsWrongFalsely : Prop := pickErrorsRow.holds Try.pinned (OpenSpec.ofChange pickErrorsWrong)

/-- 'erratumlaw19.PickMore': WHATEVER THE INPUT: true; the input reads as it did. -/
def pickMoreSpec : ChangeSpec := { name := "pickMore", fn := fun _ => fun
  | [d1, d2, d3, d4, d5] => { results := [.lit (.bool true)], args := [d1, d2, d3, d4, d5] }
  | _ => none }
def pickMoreRow : OpenClaim := { program := "ythfhhnlnlcbckaa", sum := "ae959c6efc1ebaa72e1d7f02d22039ac5a2c64ff68ada6ab3eda3af7bdaf34f0", func := "erratum/erratumlaw19.PickMore", spec := "pickMore", unfollowed := true, recurses := true, apart := false }
def PickMoreSaid : Prop := pickMoreRow.holds Try.pinned (OpenSpec.ofChange pickMoreSpec)

/-- ITS FALSE NEIGHBOUR: 'it returns false'. Refute it at one input. -/
def pickMoreWrong : ChangeSpec := { name := "pickMore", fn := fun _ => fun
  | [d1, d2, d3, d4, d5] => { results := [.lit (.bool false)], args := [d1, d2, d3, d4, d5] }
  | _ => none }
def PickMoreWrongFalsely : Prop := pickMoreRow.holds Try.pinned (OpenSpec.ofChange pickMoreWrong)

/-- 'erratumlaw23.NoiseTwice': WHATEVER THE INPUT: true; the input reads as it did. -/
def noiseTwiceSpec : ChangeSpec := { name := "noiseTwice", fn := fun _ => fun
  | [d1, d2, d3] => { results := [.lit (.bool true)], args := [d1, d2, d3] }
  | _ => none }
def noiseTwiceRow : OpenClaim := { program := "ythfhhnlnlcbckaa", sum := "ae959c6efc1ebaa72e1d7f02d22039ac5a2c64ff68ada6ab3eda3af7bdaf34f0", func := "erratum/erratumlaw23.NoiseTwice", spec := "noiseTwice", unfollowed := true, recurses := true, apart := false }
def NoiseTwiceSaid : Prop := noiseTwiceRow.holds Try.pinned (OpenSpec.ofChange noiseTwiceSpec)

/-- ITS FALSE NEIGHBOUR: 'it returns false'. Refute it at one input. -/
def noiseTwiceWrong : ChangeSpec := { name := "noiseTwice", fn := fun _ => fun
  | [d1, d2, d3] => { results := [.lit (.bool false)], args := [d1, d2, d3] }
  | _ => none }
def NoiseTwiceWrongFalsely : Prop := noiseTwiceRow.holds Try.pinned (OpenSpec.ofChange noiseTwiceWrong)

/-- 'erratumlaw23.NoiseNone': WHATEVER THE INPUT: true; the input reads as it did. -/
def noiseNoneSpec : ChangeSpec := { name := "noiseNone", fn := fun _ => fun
  | [d1, d2, d3, d4, d5] => { results := [.lit (.bool true)], args := [d1, d2, d3, d4, d5] }
  | _ => none }
def noiseNoneRow : OpenClaim := { program := "ythfhhnlnlcbckaa", sum := "ae959c6efc1ebaa72e1d7f02d22039ac5a2c64ff68ada6ab3eda3af7bdaf34f0", func := "erratum/erratumlaw23.NoiseNone", spec := "noiseNone", unfollowed := true, recurses := true, apart := false }
def NoiseNoneSaid : Prop := noiseNoneRow.holds Try.pinned (OpenSpec.ofChange noiseNoneSpec)

/-- ITS FALSE NEIGHBOUR: 'it returns false'. Refute it at one input. -/
def noiseNoneWrong : ChangeSpec := { name := "noiseNone", fn := fun _ => fun
  | [d1, d2, d3, d4, d5] => { results := [.lit (.bool false)], args := [d1, d2, d3, d4, d5] }
  | _ => none }
def NoiseNoneWrongFalsely : Prop := noiseNoneRow.holds Try.pinned (OpenSpec.ofChange noiseNoneWrong)

/-- 'erratumlaw23.NoiseBurst': WHATEVER THE INPUT: true; the input reads as it did. -/
def noiseBurstSpec : ChangeSpec := { name := "noiseBurst", fn := fun _ => fun
  | [d1, d2, d3] => { results := [.lit (.bool true)], args := [d1, d2, d3] }
  | _ => none }
def noiseBurstRow : OpenClaim := { program := "ythfhhnlnlcbckaa", sum := "ae959c6efc1ebaa72e1d7f02d22039ac5a2c64ff68ada6ab3eda3af7bdaf34f0", func := "erratum/erratumlaw23.NoiseBurst", spec := "noiseBurst", unfollowed := true, recurses := true, apart := false }
def NoiseBurstSaid : Prop := noiseBurstRow.holds Try.pinned (OpenSpec.ofChange noiseBurstSpec)

/-- ITS FALSE NEIGHBOUR: 'it returns false'. Refute it at one input. -/
def noiseBurstWrong : ChangeSpec := { name := "noiseBurst", fn := fun _ => fun
  | [d1, d2, d3] => { results := [.lit (.bool false)], args := [d1, d2, d3] }
  | _ => none }
def NoiseBurstWrongFalsely : Prop := noiseBurstRow.holds Try.pinned (OpenSpec.ofChange noiseBurstWrong)

/-- 'erratumlaw23.NoiseTally': WHATEVER THE INPUT: true; the input reads as it did. -/
def noiseTallySpec : ChangeSpec := { name := "noiseTally", fn := fun _ => fun
  | [d1, d2, d3, d4, d5, d6, d7, d8] => { results := [.lit (.bool true)], args := [d1, d2, d3, d4, d5, d6, d7, d8] }
  | _ => none }
def noiseTallyRow : OpenClaim := { program := "ythfhhnlnlcbckaa", sum := "ae959c6efc1ebaa72e1d7f02d22039ac5a2c64ff68ada6ab3eda3af7bdaf34f0", func := "erratum/erratumlaw23.NoiseTally", spec := "noiseTally", unfollowed := true, recurses := true, apart := false }
def NoiseTallySaid : Prop := noiseTallyRow.holds Try.pinned (OpenSpec.ofChange noiseTallySpec)

/-- ITS FALSE NEIGHBOUR: 'it returns false'. Refute it at one input. -/
def noiseTallyWrong : ChangeSpec := { name := "noiseTally", fn := fun _ => fun
  | [d1, d2, d3, d4, d5, d6, d7, d8] => { results := [.lit (.bool false)], args := [d1, d2, d3, d4, d5, d6, d7, d8] }
  | _ => none }
def NoiseTallyWrongFalsely : Prop := noiseTallyRow.holds Try.pinned (OpenSpec.ofChange noiseTallyWrong)

/- THE SECOND FORM. 'bulk': how many values and letters a reading holds, each counted each time it is reached (what is shared counts as often as it is met; a slice's spare places count too). A statement '..UptoSaid' is the law's where the arguments, and the package variables that the reading takes, are together of bulk at most 1048576: NARROWER than '..Said'. Prove '..Said' where nothing that the law and all that it calls make is longer than what came in: it says more and counts as full. Else prove '..UptoSaid'. A law counts once. -/
mutual
def uptoBulk {H : Type} : DataW H → Nat
  | .lit (.string bytes) => bytes.length + 1
  | .lit _ => 1
  | .nil => 1
  | .ptr d => uptoBulk d + 1
  | .slice elems spare => uptoBulkAll elems + uptoBulkAll spare + 1
  | .agg parts => uptoBulkAll parts + 1
  | .iface _ d => uptoBulk d + 1
  | .map entries => uptoBulkEntries entries + 1
  | .held _ => 1
def uptoBulkAll {H : Type} : List (DataW H) → Nat
  | [] => 0
  | d :: r => uptoBulk d + uptoBulkAll r
def uptoBulkEntries {H : Type} : List (Lit × DataW H) → Nat
  | [] => 0
  | x :: r => uptoBulkEntry x + uptoBulkEntries r
def uptoBulkEntry {H : Type} : Lit × DataW H → Nat
  | (.string bytes, d) => bytes.length + uptoBulk d + 1
  | (_, d) => uptoBulk d + 1
 end
def uptoSmall : (H : Type) → List (DataW H) → Bool := fun _ ds => decide (uptoBulkAll ds ≤ 1048576)
def OpenSpec.upto (s : _root_.Go.ChangeSpec) : _root_.Go.OpenSpec := { _root_.Go.OpenSpec.ofChange s with cond := some uptoSmall }

/-- 'erratumlaw19.PickAsks', WHERE WHAT IT READS IS OF BULK AT MOST 1048576: true; the input reads as it did. -/
def pickAsksUptoRow : OpenClaim := { program := "ythfhhnlnlcbckaa", sum := "ae959c6efc1ebaa72e1d7f02d22039ac5a2c64ff68ada6ab3eda3af7bdaf34f0", func := "erratum/erratumlaw19.PickAsks", spec := "pickAsks", unfollowed := true, recurses := true, apart := false, narrowed := true }
def PickAsksUptoSaid : Prop := pickAsksUptoRow.holds Try.pinned (OpenSpec.upto pickAsksSpec)

/-- 'erratumlaw19.PickKeeps', WHERE WHAT IT READS IS OF BULK AT MOST 1048576: true; the input reads as it did. -/
def pickKeepsUptoRow : OpenClaim := { program := "ythfhhnlnlcbckaa", sum := "ae959c6efc1ebaa72e1d7f02d22039ac5a2c64ff68ada6ab3eda3af7bdaf34f0", func := "erratum/erratumlaw19.PickKeeps", spec := "pickKeeps", unfollowed := true, recurses := true, apart := false, narrowed := true }
def PickKeepsUptoSaid : Prop := pickKeepsUptoRow.holds Try.pinned (OpenSpec.upto pickKeepsSpec)

/-- 'erratumlaw19.PickAll', WHERE WHAT IT READS IS OF BULK AT MOST 1048576: true; the input reads as it did. -/
def pickAllUptoRow : OpenClaim := { program := "ythfhhnlnlcbckaa", sum := "ae959c6efc1ebaa72e1d7f02d22039ac5a2c64ff68ada6ab3eda3af7bdaf34f0", func := "erratum/erratumlaw19.PickAll", spec := "pickAll", unfollowed := true, recurses := true, apart := false, narrowed := true }
def PickAllUptoSaid : Prop := pickAllUptoRow.holds Try.pinned (OpenSpec.upto pickAllSpec)

/-- 'erratumlaw19.PickErrors', WHERE WHAT IT READS IS OF BULK AT MOST 1048576: true; the input reads as it did. -/
def pickErrorsUptoRow : OpenClaim := { program := "ythfhhnlnlcbckaa", sum := "ae959c6efc1ebaa72e1d7f02d22039ac5a2c64ff68ada6ab3eda3af7bdaf34f0", func := "erratum/erratumlaw19.PickErrors", spec := "pickErrors", unfollowed := true, recurses := true, apart := false, narrowed := true }
def PickErrorsUptoSaid : Prop := pickErrorsUptoRow.holds Try.pinned (OpenSpec.upto pickErrorsSpec)

/-- 'erratumlaw19.PickMore', WHERE WHAT IT READS IS OF BULK AT MOST 1048576: true; the input reads as it did. -/
def pickMoreUptoRow : OpenClaim := { program := "ythfhhnlnlcbckaa", sum := "ae959c6efc1ebaa72e1d7f02d22039ac5a2c64ff68ada6ab3eda3af7bdaf34f0", func := "erratum/erratumlaw19.PickMore", spec := "pickMore", unfollowed := true, recurses := true, apart := false, narrowed := true }
def PickMoreUptoSaid : Prop := pickMoreUptoRow.holds Try.pinned (OpenSpec.upto pickMoreSpec)

/-- 'erratumlaw23.NoiseTwice', WHERE WHAT IT READS IS OF BULK AT MOST 1048576: true; the input reads as it did. -/
def noiseTwiceUptoRow : OpenClaim := { program := "ythfhhnlnlcbckaa", sum := "ae959c6efc1ebaa72e1d7f02d22039ac5a2c64ff68ada6ab3eda3af7bdaf34f0", func := "erratum/erratumlaw23.NoiseTwice", spec := "noiseTwice", unfollowed := true, recurses := true, apart := false, narrowed := true }
def NoiseTwiceUptoSaid : Prop := noiseTwiceUptoRow.holds Try.pinned (OpenSpec.upto noiseTwiceSpec)

/-- 'erratumlaw23.NoiseNone', WHERE WHAT IT READS IS OF BULK AT MOST 1048576: true; the input reads as it did. -/
def noiseNoneUptoRow : OpenClaim := { program := "ythfhhnlnlcbckaa", sum := "ae959c6efc1ebaa72e1d7f02d22039ac5a2c64ff68ada6ab3eda3af7bdaf34f0", func := "erratum/erratumlaw23.NoiseNone", spec := "noiseNone", unfollowed := true, recurses := true, apart := false, narrowed := true }
def NoiseNoneUptoSaid : Prop := noiseNoneUptoRow.holds Try.pinned (OpenSpec.upto noiseNoneSpec)

/-- 'erratumlaw23.NoiseBurst', WHERE WHAT IT READS IS OF BULK AT MOST 1048576: true; the input reads as it did. -/
def noiseBurstUptoRow : OpenClaim := { program := "ythfhhnlnlcbckaa", sum := "ae959c6efc1ebaa72e1d7f02d22039ac5a2c64ff68ada6ab3eda3af7bdaf34f0", func := "erratum/erratumlaw23.NoiseBurst", spec := "noiseBurst", unfollowed := true, recurses := true, apart := false, narrowed := true }
def NoiseBurstUptoSaid : Prop := noiseBurstUptoRow.holds Try.pinned (OpenSpec.upto noiseBurstSpec)

/-- 'erratumlaw23.NoiseTally', WHERE WHAT IT READS IS OF BULK AT MOST 1048576: true; the input reads as it did. -/
def noiseTallyUptoRow : OpenClaim := { program := "ythfhhnlnlcbckaa", sum := "ae959c6efc1ebaa72e1d7f02d22039ac5a2c64ff68ada6ab3eda3af7bdaf34f0", func := "erratum/erratumlaw23.NoiseTally", spec := "noiseTally", unfollowed := true, recurses := true, apart := false, narrowed := true }
def NoiseTallyUptoSaid : Prop := noiseTallyUptoRow.holds Try.pinned (OpenSpec.upto noiseTallySpec)

end Rows
end Go.Proofs.Ythfhhnlnlcbckaa
