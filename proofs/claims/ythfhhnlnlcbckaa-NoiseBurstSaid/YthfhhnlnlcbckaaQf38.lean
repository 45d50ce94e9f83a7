/- erratum/pick.Choose$4 -/
/- PRINTED by gwmain.py of this project. -/
import Derived.Test.YthfhhnlnlcbckaaQ0
namespace Go.Proofs.Ythfhhnlnlcbckaa.Gw
open Go Go.RowKit
set_option linter.unusedVariables false
set_option linter.unusedSimpArgs false
def pick_Choose_4.f (a0 : (Int × Int × Int) × Int) : Option (Bool) := some (decide (64 ≤ a0.1.1))
set_option maxRecDepth 100000 in
set_option maxHeartbeats 4000000 in
theorem pick_Choose_4.calls {w0 : World} {a0 : (Int × Int × Int) × Int} {r : Bool}  (E : pick_Choose_4.f a0 = some r) :
    Calls Try.prog 38 #[.agg #[.int .i64 a0.1.1, .int .i64 a0.1.2.1, .int .i64 a0.1.2.2, .int .i64 a0.2]] w0 fun e w' => e = .returned (.bool r) ∧ St no w0 w' [] := by
  have H := St.nil no w0
  unfold pick_Choose_4.f at E
  refine calls_of_wc (N := 7) (args := [.agg #[.int .i64 a0.1.1, .int .i64 a0.1.2.1, .int .i64 a0.1.2.2, .int .i64 a0.2]]) Try.func38 rfl rfl (by simp) ?_
  refine rg (e_ rfl (y_boxS (cs := #[.int .i64 a0.1.1, .int .i64 a0.1.2.1, .int .i64 a0.1.2.2, .int .i64 a0.2]) H rfl (fun b1 w H => (v_ rfl (sg (.bool false) rfl) (nl (rg (v_ rfl (r_faddr fa_70_0 rfl) (v_ rfl (r_faddr fa_23_0 rfl) (v_ rfl (r_load sc_3 rfl (blk_cell (H.get 0 rfl) rfl)) (v_ rfl (r_geq rfl rfl) (v_ rfl (sg (.bool (decide (64 ≤ a0.1.1))) rfl) (nl (wc_ret ?_)))))))))))))
  cases E
  exact ⟨.inl rfl, _, resN rfl (rv_t rv_nil), rfl, H.sub0⟩
end Go.Proofs.Ythfhhnlnlcbckaa.Gw
