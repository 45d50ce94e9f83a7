/- erratum/code.Right -/
/- PRINTED by gwmain.py of this project. -/
import Derived.Test.YthfhhnlnlcbckaaQ0
namespace Go.Proofs.Ythfhhnlnlcbckaa.Gw
open Go Go.RowKit
set_option linter.unusedVariables false
set_option linter.unusedSimpArgs false
def code_Right.f (a0 : Int × Int × Int) : Option (Int) := bif decide (a0.2.1 < 1) then (some 10) else (bif decide (a0.1 ≤ a0.2.1) then (some 10) else (bif decide (255 < a0.1) then (some 10) else (bif decide (a0.2.2 < 0) then (some 10) else (bif decide (255 ≤ a0.2.2) then (some 10) else (some 0)))))
set_option maxRecDepth 100000 in
set_option maxHeartbeats 4000000 in
theorem code_Right.calls {w0 : World} {a0 : Int × Int × Int} {r : Int}  (E : code_Right.f a0 = some r) :
    Calls Try.prog 32 #[.agg #[.int .i64 a0.1, .int .i64 a0.2.1, .int .i64 a0.2.2]] w0 fun e w' => e = .returned (.int .u16 r) ∧ St no w0 w' [] := by
  have H := St.nil no w0
  unfold code_Right.f at E
  refine calls_of_wc (N := 21) (args := [.agg #[.int .i64 a0.1, .int .i64 a0.2.1, .int .i64 a0.2.2]]) Try.func32 rfl rfl (by simp) ?_
  refine rg (e_ rfl (y_boxS (cs := #[.int .i64 a0.1, .int .i64 a0.2.1, .int .i64 a0.2.2]) H rfl (fun b1 w H => (v_ rfl (sg (.int .u16 0) rfl) (nl (wc_seq (wc_block (wc_seq (rg (v_ rfl (r_faddr fa_23_1 rfl) (v_ rfl (r_load sc_3 rfl (blk_cell (H.get 0 rfl) rfl)) (v_ rfl (r_lss rfl rfl) (v_ rfl (sg (.bool (decide (a0.2.1 < 1))) rfl) (nl ?_))))))))))))))
  refine wc_cond rfl (fun c2 => ?_) (fun c2 => ?_)
  · have E := iT c2 E
    refine wc_skip (n_thn (wc_condT2 rfl c2 (rg (v_ rfl (sg (.int .u16 10) rfl) (nl (wc_ret ?_))))))
    cases E
    exact (r_bk (r_thn ⟨.inl rfl, _, resN rfl (rv_t rv_nil), rfl, H.sub0⟩))
  · have E := iF c2 E
    refine rg (v_ rfl (r_faddr fa_23_0 rfl) (v_ rfl (r_load sc_3 rfl (blk_cell (H.get 0 rfl) rfl)) (v_ rfl (r_faddr fa_23_1 rfl) (v_ rfl (r_load sc_3 rfl (blk_cell (H.get 0 rfl) rfl)) (v_ rfl (r_leq rfl rfl) (v_ rfl (sg (.bool (decide (a0.1 ≤ a0.2.1))) rfl) (nl ?_)))))))
    refine wc_cond rfl (fun c3 => ?_) (fun c3 => ?_)
    · have E := iT c3 E
      refine wc_skip (n_thn (wc_condT2 rfl c3 (rg (v_ rfl (sg (.int .u16 10) rfl) (nl (wc_ret ?_))))))
      cases E
      exact (r_bk (r_thn ⟨.inl rfl, _, resN rfl (rv_t rv_nil), rfl, H.sub0⟩))
    · have E := iF c3 E
      refine rg (v_ rfl (r_faddr fa_23_0 rfl) (v_ rfl (r_load sc_3 rfl (blk_cell (H.get 0 rfl) rfl)) (v_ rfl (r_gtr rfl rfl) (v_ rfl (sg (.bool (decide (255 < a0.1))) rfl) (nl ?_)))))
      refine wc_cond rfl (fun c4 => ?_) (fun c4 => ?_)
      · have E := iT c4 E
        refine wc_skip (n_thn (wc_condT2 rfl c4 (rg (v_ rfl (sg (.int .u16 10) rfl) (nl (wc_ret ?_))))))
        cases E
        exact (r_bk (r_thn ⟨.inl rfl, _, resN rfl (rv_t rv_nil), rfl, H.sub0⟩))
      · have E := iF c4 E
        refine rg (v_ rfl (r_faddr fa_23_2 rfl) (v_ rfl (r_load sc_3 rfl (blk_cell (H.get 0 rfl) rfl)) (v_ rfl (r_lss rfl rfl) (v_ rfl (sg (.bool (decide (a0.2.2 < 0))) rfl) (nl ?_)))))
        refine wc_cond rfl (fun c5 => ?_) (fun c5 => ?_)
        · have E := iT c5 E
          refine wc_skip (n_thn (wc_condT2 rfl c5 (rg (v_ rfl (sg (.int .u16 10) rfl) (nl (wc_ret ?_))))))
          cases E
          exact (r_bk (r_thn ⟨.inl rfl, _, resN rfl (rv_t rv_nil), rfl, H.sub0⟩))
        · have E := iF c5 E
          refine wc_region (v_ rfl (r_faddr fa_23_2 rfl) (v_ rfl (r_load sc_3 rfl (blk_cell (H.get 0 rfl) rfl)) (v_ rfl (r_geq rfl rfl) (v_ rfl (sg (.bool (decide (255 ≤ a0.2.2))) rfl) (nl ?_)))))
          refine wc_cond rfl (fun c6 => ?_) (fun c6 => ?_)
          · have E := iT c6 E
            refine rg (v_ rfl (sg (.int .u16 10) rfl) (nl (wc_ret ?_)))
            cases E
            exact (r_bk (r_thn ⟨.inl rfl, _, resN rfl (rv_t rv_nil), rfl, H.sub0⟩))
          · have E := iF c6 E
            refine wc_skip (n_bk (n_thn (rg (v_ rfl (sg (.int .u16 0) rfl) (nl (wc_ret ?_))))))
            cases E
            exact ⟨.inl rfl, _, resN rfl (rv_t rv_nil), rfl, H.sub0⟩
end Go.Proofs.Ythfhhnlnlcbckaa.Gw
