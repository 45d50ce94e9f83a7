/- erratum/erratumref19.Right -/
/- PRINTED by gwmain.py of this project. -/
import Derived.Test.YthfhhnlnlcbckaaQ0
namespace Go.Proofs.Ythfhhnlnlcbckaa.Gw
open Go Go.RowKit
set_option linter.unusedVariables false
set_option linter.unusedSimpArgs false
def ref19_Right.f (a0 : Int × Int) : Option (Int) := bif decide (a0.1 < 0) then (some 11) else (bif decide (3 < a0.1) then (some 11) else (bif decide (a0.2 < 0) then (some 11) else (bif decide (3 < a0.2) then (some 11) else (some 0))))
set_option maxRecDepth 100000 in
set_option maxHeartbeats 4000000 in
theorem ref19_Right.calls {w0 : World} {a0 : Int × Int} {r : Int}  (E : ref19_Right.f a0 = some r) :
    Calls Try.prog 31 #[.agg #[.int .i64 a0.1, .int .i64 a0.2]] w0 fun e w' => e = .returned (.int .i64 r) ∧ St no w0 w' [] := by
  have H := St.nil no w0
  unfold ref19_Right.f at E
  refine calls_of_wc (N := 21) (args := [.agg #[.int .i64 a0.1, .int .i64 a0.2]]) Try.func31 rfl rfl (by simp) ?_
  refine rg (e_ rfl (y_boxS (cs := #[.int .i64 a0.1, .int .i64 a0.2]) H rfl (fun b1 w H => (v_ rfl (sg (.int .i64 0) rfl) (nl (wc_seq (rg (v_ rfl (r_faddr fa_25_0 rfl) (v_ rfl (r_load sc_3 rfl (blk_cell (H.get 0 rfl) rfl)) (v_ rfl (r_lss rfl rfl) (v_ rfl (mv (.bool (decide (a0.1 < 0))) rfl) ?_)))))))))))
  rcases Bool.eq_false_or_eq_true (decide (a0.1 < 0)) with c2 | c2
  · have E := iT c2 E
    refine off_ c2 rfl rfl rfl (off_ c2 rfl rfl rfl (off_ c2 rfl rfl rfl (v_ rfl (pT (.bool true) rfl rfl c2) (v_ rfl (mv (.bool true) rfl) (off_ rfl rfl rfl rfl (off_ rfl rfl rfl rfl (off_ rfl rfl rfl rfl (v_ rfl (pT (.bool true) rfl rfl rfl) (v_ rfl (mv (.bool true) rfl) (off_ rfl rfl rfl rfl (off_ rfl rfl rfl rfl (off_ rfl rfl rfl rfl (v_ rfl (pT (.bool true) rfl rfl rfl) (nl (wc_condT rfl (rg (v_ rfl (sg (.int .i64 11) rfl) (nl (wc_ret ?_)))))))))))))))))))
    cases E
    exact (r_thn ⟨.inl rfl, _, resN rfl (rv_t rv_nil), rfl, H.sub0⟩)
  · have E := iF c2 E
    refine on_ c2 rfl rfl (r_faddr fa_25_0 rfl) (on_ c2 rfl rfl (r_load sc_3 rfl (blk_cell (H.get 0 rfl) rfl)) (on_ c2 rfl rfl (r_gtr rfl rfl) (v_ rfl (pF (.bool (decide (3 < a0.1))) rfl rfl c2) (v_ rfl (mv (.bool (decide (3 < a0.1))) rfl) ?_))))
    rcases Bool.eq_false_or_eq_true (decide (3 < a0.1)) with c3 | c3
    · have E := iT c3 E
      refine off_ c3 rfl rfl rfl (off_ c3 rfl rfl rfl (off_ c3 rfl rfl rfl (v_ rfl (pT (.bool true) rfl rfl c3) (v_ rfl (mv (.bool true) rfl) (off_ rfl rfl rfl rfl (off_ rfl rfl rfl rfl (off_ rfl rfl rfl rfl (v_ rfl (pT (.bool true) rfl rfl rfl) (nl (wc_condT rfl (rg (v_ rfl (sg (.int .i64 11) rfl) (nl (wc_ret ?_))))))))))))))
      cases E
      exact (r_thn ⟨.inl rfl, _, resN rfl (rv_t rv_nil), rfl, H.sub0⟩)
    · have E := iF c3 E
      refine on_ c3 rfl rfl (r_faddr fa_25_1 rfl) (on_ c3 rfl rfl (r_load sc_3 rfl (blk_cell (H.get 0 rfl) rfl)) (on_ c3 rfl rfl (r_lss rfl rfl) (v_ rfl (pF (.bool (decide (a0.2 < 0))) rfl rfl c3) (v_ rfl (mv (.bool (decide (a0.2 < 0))) rfl) ?_))))
      rcases Bool.eq_false_or_eq_true (decide (a0.2 < 0)) with c4 | c4
      · have E := iT c4 E
        refine off_ c4 rfl rfl rfl (off_ c4 rfl rfl rfl (off_ c4 rfl rfl rfl (v_ rfl (pT (.bool true) rfl rfl c4) (nl (wc_condT rfl (rg (v_ rfl (sg (.int .i64 11) rfl) (nl (wc_ret ?_)))))))))
        cases E
        exact (r_thn ⟨.inl rfl, _, resN rfl (rv_t rv_nil), rfl, H.sub0⟩)
      · have E := iF c4 E
        refine on_ c4 rfl rfl (r_faddr fa_25_1 rfl) (on_ c4 rfl rfl (r_load sc_3 rfl (blk_cell (H.get 0 rfl) rfl)) (on_ c4 rfl rfl (r_gtr rfl rfl) (v_ rfl (pF (.bool (decide (3 < a0.2))) rfl rfl c4) (nl ?_))))
        refine wc_cond rfl (fun c5 => ?_) (fun c5 => ?_)
        · have E := iT c5 E
          refine rg (v_ rfl (sg (.int .i64 11) rfl) (nl (wc_ret ?_)))
          cases E
          exact (r_thn ⟨.inl rfl, _, resN rfl (rv_t rv_nil), rfl, H.sub0⟩)
        · have E := iF c5 E
          refine wc_skip (n_thn (rg (v_ rfl (sg (.int .i64 0) rfl) (nl (wc_ret ?_)))))
          cases E
          exact ⟨.inl rfl, _, resN rfl (rv_t rv_nil), rfl, H.sub0⟩
end Go.Proofs.Ythfhhnlnlcbckaa.Gw
