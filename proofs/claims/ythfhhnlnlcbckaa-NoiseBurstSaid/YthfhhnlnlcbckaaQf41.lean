/- slices.Clone[[]byte,byte] -/
/- PRINTED by gwmain.py of this project. -/
import Derived.Test.YthfhhnlnlcbckaaQ0
namespace Go.Proofs.Ythfhhnlnlcbckaa.Gw
open Go Go.RowKit
set_option linter.unusedVariables false
set_option linter.unusedSimpArgs false
/-- slices.Clone[[]byte,byte]: the same again, in new memory. -/
def slices_Clone.f (a0 : List (Int)) : Option (List (Int)) := grd (decide (a0.length * 1 ≤ 140737488355328)) (some a0)
set_option maxRecDepth 100000 in
theorem slices_Clone.calls {w0 : World} {a0 : List (Int)} {v0_ : Value} {r : List (Int)} (h0 : Rd (.of (.int .u8)) w0 (Ol no w0) v0_ a0) (E : slices_Clone.f a0 = some r) :
    Calls Try.prog 41 #[v0_] w0 fun e w' => ∃ u0 : Value, e = .returned (u0) ∧ St no w0 w' [.own (.int .u8) 5 u0 r] := by
  have H := St.nil no w0
  unfold slices_Clone.f at E
  obtain ⟨g1, E⟩ := grd_some E
  cases E
  obtain ⟨p, c, rfl, h2, h3, h4⟩ := id h0
  cases p with
  | none =>
    obtain rfl : a0 = [] := by
      rcases h4 with ⟨h, _, _⟩ | ⟨b, o, h, _⟩
      · exact h
      · cases h
    refine calls_of_wc (N := 8) (args := [.slice none ([] : List (Int)).length c]) Try.func41 rfl rfl (by simp) ?_
    refine rg (v_ rfl (sg (.slice none 0 0) rfl) (nl (wc_seq (rg (v_ rfl (mv (.slice none ([] : List (Int)).length c) rfl) (v_ rfl (r_snil Try.underlying42 rfl rfl) (nl (wc_condT2 rfl rfl (rg (v_ rfl (sg (.slice none 0 0) rfl) (nl ?_)))))))))))
    have H := H.nilOwn (.int .u8) 5
    refine wc_ret ?_
    exact r_thn ⟨.inl rfl, _, resN rfl (rv_t rv_nil), _, rfl, H.sub1 0 rfl⟩
  | some p =>
    refine calls_of_wc (N := 8) (args := [.slice (some p) a0.length c]) Try.func41 rfl rfl (by simp) ?_
    refine rg (v_ rfl (sg (.slice none 0 0) rfl) (nl (wc_seq (rg (v_ rfl (mv (.slice (some p) a0.length c) rfl) (v_ rfl (r_snil Try.underlying42 rfl rfl) (nl (wc_condF2 rfl rfl (wc_skip (n_thn ?_))))))))))
    refine rg (e_ rfl (y_bs0 (e := (.int .u8)) sl_42 H (fun v1 w H => (v_ rfl (mv (.slice (some p) a0.length c) rfl) (e_ rfl (y_app sl_42 H 0 rfl (H.rd h0) rfl rfl (by simpa using g1) (by unfold maxLen; simp; omega) (fun v2 w H => (v_ rfl (sg v2 rfl) (nl ?_)))))))))
    rw [List.nil_append] at H
    refine wc_ret ?_
    exact ⟨.inl rfl, _, resN rfl (rv_t rv_nil), _, rfl, H.sub1 0 rfl⟩

end Go.Proofs.Ythfhhnlnlcbckaa.Gw
