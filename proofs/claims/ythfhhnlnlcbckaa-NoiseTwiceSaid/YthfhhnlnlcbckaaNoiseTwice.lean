/- 'Rows.NoiseTwiceSaid': whatever the input, the law NoiseTwice answers true and each argument reads as it did. No condition. -/
import Derived.Test.YthfhhnlnlcbckaaRows
import Derived.Test.YthfhhnlnlcbckaaNoisePure
import Derived.Test.YthfhhnlnlcbckaaGz
import Derived.WalkKit
import Derived.ProofKit
import Derived.OpenShut
import Derived.Lib.SmallJoins
import Derived.SizedLaws
namespace Go.Proofs.Ythfhhnlnlcbckaa.noiseTwice
open Go.ChangeShapes Go.WideShapes Go.ChangeAt Go.RowKit
set_option linter.unusedVariables false

theorem own : ownKnob Try.prog.godebug = none := by kernel_rfl
theorem laid : laidOutB Try.prog = true := by kernel_rfl

set_option maxRecDepth 100000 in
theorem lifted (os : Os) (started : os.Started) (H : Type) (enc : TypeId × Value → H) :
    ReturnsInHanded {} Try.checked os 8 .any (Rows.noiseTwiceSpec.pre6 enc Try.prog Try.f8 Rows.noiseTwiceRow.domain false) (Rows.noiseTwiceSpec.post enc Try.prog Try.f8 false true false false) := by
  refine returnsInHanded_of_change_sized (C := Try.checked) own started (by kernel_rfl) Try.func8
    (ChangeSpec.witness6 (enc := enc) (C := Try.checked) false ⟨#[], #[.slice none 0 0, .slice none 0 0, .int .u8 0], []⟩ 8 (by kernel_rfl) (by kernel_rfl) (by kernel_rfl) (by kernel_rfl)) ?_
  intro W base args ds gs before hval0 hW hcnd hsz0 _
  have hval : ∀ (j : Nat) t v, Try.f8.params[j]? = some t → args[j]? = some v → Value.okWide Try.prog W .any base t v := hval0
  have hW' := hW
  obtain ⟨p, q, hA0, hV, rfl, hfz, hnd⟩ := hW
  have hlt := hW'.lt
  have hA : DataW.TrodAll enc Try.prog W 0 (fun _ => true) true Try.f8.params.toList args.toList ds p := hA0
  have hsz : (DataW.weightsEach Try.prog (Try.f8.params.toList ++ Rows.noiseTwiceSpec.plain.varTypes Try.prog) (ds ++ gs)).all (· ≤ reachBytes) = true := hsz0
  rw [Try.params8] at hA hval hsz
  obtain ⟨v0, vs0, d0, ds0, p0, q0, hargs, rfl, rfl, h0, r0⟩ := trodAll_cons hA
  obtain ⟨v1, vs1, d1, ds1, p1, q1, rfl, rfl, rfl, h1, r1⟩ := trodAll_cons r0
  obtain ⟨v2, vs2, d2, ds2, p2, q2, rfl, rfl, rfl, h2, r2⟩ := trodAll_cons r1
  obtain ⟨rfl, rfl, rfl⟩ := trodAll_nil r2
  obtain rfl : args = #[v0, v1, v2] := by cases args; simp_all
  obtain ⟨rfl, rfl⟩ := trodVars_none hV
  obtain ⟨a0, R0, z0, b0⟩ := Gw.open_rd (e := (.int .u8)) (E := 5) (by_ := 1) Try.underlying42 (by kernel_rfl) (by kernel_rfl) (Gw.opn_int Try.underlying5) (hval 0 42 v0 rfl rfl) h0 hsz 0 rfl rfl
  obtain ⟨a1, R1, z1, b1⟩ := Gw.open_rd (e := (.pr (.int .i64) (.pr (.int .u8) (.pr .bool .bool)))) (E := 48) (by_ := 16) Try.underlying43 (by kernel_rfl) (by kernel_rfl) (Gw.opn_st4 Try.underlying47 (by kernel_rfl) (by kernel_rfl) (Gw.opn_int Try.underlying3) (Gw.opn_int Try.underlying5) (Gw.opn_bool Try.underlying4) (Gw.opn_bool Try.underlying4)) (hval 1 43 v1 rfl rfl) h1 hsz 1 rfl rfl
  obtain ⟨a2, rfl, rfl, rfl, w2⟩ := open_int Try.underlying5 (hval 2 5 v2 rfl rfl) h2
  have b2 := Gw.wf_u8 w2
  clear hA0 hval0 hsz0
  simp only [List.append_nil] at hW'
  refine (Gw.law23_NoiseTwice.calls (w0 := W) (k := 100000) (a0 := a0) (a1 := a1) (a2 := a2) R0 R1 (r := true) (Gw.Twice_eq b2)).mono fun e W' ⟨he, hg⟩ => ?_
  subst he
  exact ⟨_, rfl, Gw.law_post laid (by kernel_rfl) (by kernel_rfl) Try.underlying4 rfl (by simpa using hW') rfl (by simp [Rows.noiseTwiceSpec]) rfl hg.ch.below⟩

theorem over : Rows.noiseTwiceRow.holds Try.pinned (OpenSpec.ofChange Rows.noiseTwiceSpec) :=
  OpenClaim.holds_of_wide 8 Try.f8 rfl rfl rfl rfl rfl rfl rfl ⟨rfl, rfl, rfl, rfl, rfl⟩ rfl rfl rfl rfl rfl (by kernel_rfl) Try.func8 (by kernel_rfl)
    (of_decide_eq_true (by kernel_rfl)) (by unfold Func.isWrapper; first | (rw [if_pos (by decide +kernel)]; kernel_rfl) | (rw [if_neg (by decide +kernel)]; exact ⟨rfl, rfl⟩))
    (fun os started H enc _ => lifted os started H enc)

/-- THE STATEMENT -/
theorem proved : Rows.NoiseTwiceSaid := over
#print axioms proved
end Go.Proofs.Ythfhhnlnlcbckaa.noiseTwice
