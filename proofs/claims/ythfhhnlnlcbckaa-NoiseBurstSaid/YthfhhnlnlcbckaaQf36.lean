/- erratum/code.Space -/
/- PRINTED by gwmain.py of this project. -/
import Derived.Test.YthfhhnlnlcbckaaQ0
import Derived.Test.YthfhhnlnlcbckaaQf32
namespace Go.Proofs.Ythfhhnlnlcbckaa.Gw
open Go Go.RowKit
set_option linter.unusedVariables false
set_option linter.unusedSimpArgs false
def code_Space.f (a0 : Int × Int × Int) : Option (Int) := (code_Right.f (a0.1, a0.2.1, a0.2.2)).bind fun x2 => bif !decide (x2 = 0) then (some 0) else (some (IntKind.i64.wrap (a0.1 - a0.2.1)))
set_option maxRecDepth 100000 in
set_option maxHeartbeats 4000000 in
theorem code_Space.calls {w0 : World} {a0 : Int × Int × Int} {r : Int}  (E : code_Space.f a0 = some r) :
    Calls Try.prog 36 #[.agg #[.int .i64 a0.1, .int .i64 a0.2.1, .int .i64 a0.2.2]] w0 fun e w' => e = .returned (.int .i64 r) ∧ St no w0 w' [] := by
  have H := St.nil no w0
  unfold code_Space.f at E
  refine calls_of_wc (N := 11) (args := [.agg #[.int .i64 a0.1, .int .i64 a0.2.1, .int .i64 a0.2.2]]) Try.func36 rfl rfl (by simp) ?_
  refine rg (e_ rfl (y_boxS (cs := #[.int .i64 a0.1, .int .i64 a0.2.1, .int .i64 a0.2.2]) H rfl (fun b1 w H => (v_ rfl (sg (.int .i64 0) rfl) (nl (wc_seq (rg (v_ rfl (r_loadB (l := [.int .i64 a0.1, .int .i64 a0.2.1, .int .i64 a0.2.2]) ag_23 (H.get 0 rfl) rfl rfl rfl) ?_))))))))
  obtain ⟨x2, E3, E⟩ := bind_some E
  refine e_ rfl (y_callL en_32 rfl ((code_Right.calls E3).mono ?_))
  rintro _ w ⟨rfl, K⟩
  have H := H.app K
  refine ⟨_, rfl, (v_ rfl (r_neq rfl rfl) (nl ?_))⟩
  refine wc_cond rfl (fun c4 => ?_) (fun c4 => ?_)
  · have E := iT c4 E
    refine rg (v_ rfl (sg (.int .i64 0) rfl) (nl (wc_ret ?_)))
    cases E
    exact (r_thn ⟨.inl rfl, _, resN rfl (rv_t rv_nil), rfl, H.sub0⟩)
  · have E := iF c4 E
    refine wc_skip (n_thn (rg (v_ rfl (r_faddr fa_23_0 rfl) (v_ rfl (r_load sc_3 rfl (blk_cell (H.get 0 rfl) rfl)) (v_ rfl (r_faddr fa_23_1 rfl) (v_ rfl (r_load sc_3 rfl (blk_cell (H.get 0 rfl) rfl)) (v_ rfl (r_sub rfl rfl) (v_ rfl (sg (.int .i64 (IntKind.i64.wrap (a0.1 - a0.2.1))) rfl) (nl (wc_ret ?_))))))))))
    cases E
    exact ⟨.inl rfl, _, resN rfl (rv_t rv_nil), rfl, H.sub0⟩
end Go.Proofs.Ythfhhnlnlcbckaa.Gw
