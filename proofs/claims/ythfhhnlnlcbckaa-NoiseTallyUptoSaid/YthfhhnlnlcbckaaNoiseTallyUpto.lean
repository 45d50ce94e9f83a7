/- 'Rows.NoiseTallyUptoSaid': where what it reads is of bulk at most 1048576, the law NoiseTally answers true and each argument reads as it did. -/
import Derived.Test.YthfhhnlnlcbckaaRows
import Derived.Test.YthfhhnlnlcbckaaTallyC
import Derived.Test.YthfhhnlnlcbckaaGu
import Derived.WalkKit
import Derived.ProofKit
import Derived.OpenShut
import Derived.Lib.SmallJoins
import Derived.SizedLaws
namespace Go.Proofs.Ythfhhnlnlcbckaa.noiseTally
open Go.ChangeShapes Go.WideShapes Go.ChangeAt Go.RowKit
set_option linter.unusedVariables false

theorem own : ownKnob Try.prog.godebug = none := by kernel_rfl
theorem laid : laidOutB Try.prog = true := by kernel_rfl

set_option maxRecDepth 100000 in
theorem lifted (os : Os) (started : os.Started) (H : Type) (enc : TypeId × Value → H) (F : Stop.Interp) :
    ReturnsInHanded {} Try.checked os 11 .any ((Rows.OpenSpec.upto Rows.noiseTallySpec).pre6 enc Try.prog Try.f11 Rows.noiseTallyUptoRow.domain false) (((Rows.OpenSpec.upto Rows.noiseTallySpec).at F).post enc Try.prog Try.f11 false true false false) := by
  refine returnsInHanded_of_cond_sized (C := Try.checked) (s := Rows.OpenSpec.upto Rows.noiseTallySpec) (k := Rows.uptoSmall) rfl own started (by kernel_rfl) Try.func11
    (OpenSpec.witness (enc := enc) (C := Try.checked) (s := Rows.OpenSpec.upto Rows.noiseTallySpec) (k := Rows.uptoSmall) rfl false ⟨#[], #[.int .u8 0, .int .u8 0, .int .u8 0, .int .u8 0, .slice none 0 0, .slice none 0 0, .slice none 0 0, .slice none 0 0], []⟩ 8 (by kernel_rfl) (by kernel_rfl) (by kernel_rfl)
      (x := ([.lit (.int .u8 0), .lit (.int .u8 0), .lit (.int .u8 0), .lit (.int .u8 0), .nil, .nil, .nil, .nil], [], [])) (by kernel_rfl) rfl (by kernel_rfl)) ?_
  intro W base args ds gs before hval0 hW hcnd hup hsz0 _
  have hval : ∀ (j : Nat) t v, Try.f11.params[j]? = some t → args[j]? = some v → Value.okWide Try.prog W .any base t v := hval0
  have hW' : DataW.Whole enc Try.prog Try.f11.params.toList Rows.noiseTallySpec.vars false W args.toList ds gs before := hW
  obtain ⟨p, q, hA0, hV, rfl, hfz, hnd⟩ := hW
  have hlt := hW'.lt
  have hA : DataW.TrodAll enc Try.prog W 0 (fun _ => true) true Try.f11.params.toList args.toList ds p := hA0
  have hsz : (DataW.weightsEach Try.prog (Try.f11.params.toList ++ Rows.noiseTallySpec.plain.varTypes Try.prog) (ds ++ gs)).all (· ≤ reachBytes) = true := hsz0
  rw [Try.params11] at hA hval hsz
  obtain ⟨v0, vs0, d0, ds0, p0, q0, hargs, rfl, rfl, h0, r0⟩ := trodAll_cons hA
  obtain ⟨v1, vs1, d1, ds1, p1, q1, rfl, rfl, rfl, h1, r1⟩ := trodAll_cons r0
  obtain ⟨v2, vs2, d2, ds2, p2, q2, rfl, rfl, rfl, h2, r2⟩ := trodAll_cons r1
  obtain ⟨v3, vs3, d3, ds3, p3, q3, rfl, rfl, rfl, h3, r3⟩ := trodAll_cons r2
  obtain ⟨v4, vs4, d4, ds4, p4, q4, rfl, rfl, rfl, h4, r4⟩ := trodAll_cons r3
  obtain ⟨v5, vs5, d5, ds5, p5, q5, rfl, rfl, rfl, h5, r5⟩ := trodAll_cons r4
  obtain ⟨v6, vs6, d6, ds6, p6, q6, rfl, rfl, rfl, h6, r6⟩ := trodAll_cons r5
  obtain ⟨v7, vs7, d7, ds7, p7, q7, rfl, rfl, rfl, h7, r7⟩ := trodAll_cons r6
  obtain ⟨rfl, rfl, rfl⟩ := trodAll_nil r7
  obtain rfl : args = #[v0, v1, v2, v3, v4, v5, v6, v7] := by cases args; simp_all
  obtain ⟨rfl, rfl⟩ := trodVars_none hV
  have hbulk : Rows.uptoBulkAll [d0, d1, d2, d3, d4, d5, d6, d7] ≤ 1048576 := by have h := hup; rw [List.append_nil] at h; exact of_decide_eq_true h
  simp only [Rows.uptoBulkAll] at hbulk
  obtain ⟨a0, rfl, rfl, rfl, w0⟩ := open_int Try.underlying5 (hval 0 5 v0 rfl rfl) h0
  have b0 := Gw.wf_u8 w0
  obtain ⟨a1, rfl, rfl, rfl, w1⟩ := open_int Try.underlying5 (hval 1 5 v1 rfl rfl) h1
  have b1 := Gw.wf_u8 w1
  obtain ⟨a2, rfl, rfl, rfl, w2⟩ := open_int Try.underlying5 (hval 2 5 v2 rfl rfl) h2
  have b2 := Gw.wf_u8 w2
  obtain ⟨a3, rfl, rfl, rfl, w3⟩ := open_int Try.underlying5 (hval 3 5 v3 rfl rfl) h3
  have b3 := Gw.wf_u8 w3
  obtain ⟨a4, R4, z4, b4⟩ := Gw.open_rd (e := (.int .u8)) (E := 5) (by_ := 1) Try.underlying42 (by kernel_rfl) (by kernel_rfl) (Gw.opn_int Try.underlying5) (hval 4 42 v4 rfl rfl) h4 hsz 4 rfl rfl
  have u4 := Gw.open_len Try.underlying42 (hval 4 42 v4 rfl rfl) h4 R4
  obtain ⟨a5, R5, z5, b5⟩ := Gw.open_rd (e := (.int .u8)) (E := 5) (by_ := 1) Try.underlying42 (by kernel_rfl) (by kernel_rfl) (Gw.opn_int Try.underlying5) (hval 5 42 v5 rfl rfl) h5 hsz 5 rfl rfl
  have u5 := Gw.open_len Try.underlying42 (hval 5 42 v5 rfl rfl) h5 R5
  obtain ⟨a6, R6, z6, b6⟩ := Gw.open_rd (e := (.int .u8)) (E := 5) (by_ := 1) Try.underlying42 (by kernel_rfl) (by kernel_rfl) (Gw.opn_int Try.underlying5) (hval 6 42 v6 rfl rfl) h6 hsz 6 rfl rfl
  have u6 := Gw.open_len Try.underlying42 (hval 6 42 v6 rfl rfl) h6 R6
  obtain ⟨a7, R7, z7, b7⟩ := Gw.open_rd (e := (.int .u8)) (E := 5) (by_ := 1) Try.underlying42 (by kernel_rfl) (by kernel_rfl) (Gw.opn_int Try.underlying5) (hval 7 42 v7 rfl rfl) h7 hsz 7 rfl rfl
  have u7 := Gw.open_len Try.underlying42 (hval 7 42 v7 rfl rfl) h7 R7
  clear hA0 hval0 hsz0
  simp only [List.append_nil] at hW'
  refine (Gw.law23_NoiseTally.calls (w0 := W) (k := 10000000) (a0 := a0) (a1 := a1) (a2 := a2) (a3 := a3) (a4 := a4) (a5 := a5) (a6 := a6) (a7 := a7) R4 R5 R6 R7 (r := true) (Gw.NoiseTally_pure b0.1 b0.2 b1.1 b1.2 b2.1 b2.2 b3.1 b3.2 (by omega) (by omega) (fun v hv => Gw.wf_u8 (b5 v hv)) (by omega))).mono fun e W' ⟨he, hg⟩ => ?_
  subst he
  exact ⟨_, rfl, show Rows.noiseTallySpec.post enc Try.prog Try.f11 false true false false W _ _ _ from Gw.law_post laid (by kernel_rfl) (by kernel_rfl) Try.underlying4 rfl (by simpa using hW') rfl (by simp [Rows.noiseTallySpec]) rfl hg.ch.below⟩

theorem over : Rows.noiseTallyUptoRow.holds Try.pinned (Rows.OpenSpec.upto Rows.noiseTallySpec) :=
  OpenClaim.holds_of_cond 11 Try.f11 rfl rfl rfl rfl rfl rfl rfl ⟨rfl, rfl, rfl, rfl, rfl⟩ rfl rfl rfl rfl rfl (by kernel_rfl) Try.func11 (by kernel_rfl)
    (of_decide_eq_true (by kernel_rfl)) (by unfold Func.isWrapper; first | (rw [if_pos (by decide +kernel)]; kernel_rfl) | (rw [if_neg (by decide +kernel)]; exact ⟨rfl, rfl⟩))
    (fun os started H enc _ F => lifted os started H enc F)

/-- THE STATEMENT -/
theorem proved : Rows.NoiseTallyUptoSaid := over
#print axioms proved
end Go.Proofs.Ythfhhnlnlcbckaa.noiseTally
