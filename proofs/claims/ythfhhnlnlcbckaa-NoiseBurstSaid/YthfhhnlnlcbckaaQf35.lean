/- erratum/pick.Choose$2 -/
/- PRINTED by gwmain.py of this project. -/
import Derived.Test.YthfhhnlnlcbckaaQ0
import Derived.Test.YthfhhnlnlcbckaaQf36
namespace Go.Proofs.Ythfhhnlnlcbckaa.Gw
open Go Go.RowKit
set_option linter.unusedVariables false
set_option linter.unusedSimpArgs false
def pick_Choose_2.f (a0 : (Int × Int × Int) × Int) : Option (Bool) := (code_Space.f (a0.1.1, a0.1.2.1, a0.1.2.2)).bind fun x2 => some (decide (IntKind.i64.wrap (Int.tdiv (IntKind.i64.wrap (x2 + 1)) 2) ≤ a0.2))
set_option maxRecDepth 100000 in
set_option maxHeartbeats 4000000 in
theorem pick_Choose_2.calls {w0 : World} {a0 : (Int × Int × Int) × Int} {r : Bool}  (E : pick_Choose_2.f a0 = some r) :
    Calls Try.prog 35 #[.agg #[.int .i64 a0.1.1, .int .i64 a0.1.2.1, .int .i64 a0.1.2.2, .int .i64 a0.2]] w0 fun e w' => e = .returned (.bool r) ∧ St no w0 w' [] := by
  have H := St.nil no w0
  unfold pick_Choose_2.f at E
  refine calls_of_wc (N := 11) (args := [.agg #[.int .i64 a0.1.1, .int .i64 a0.1.2.1, .int .i64 a0.1.2.2, .int .i64 a0.2]]) Try.func35 rfl rfl (by simp) ?_
  refine rg (e_ rfl (y_boxS (cs := #[.int .i64 a0.1.1, .int .i64 a0.1.2.1, .int .i64 a0.1.2.2, .int .i64 a0.2]) H rfl (fun b1 w H => (v_ rfl (sg (.bool false) rfl) (nl (wc_seq (wc_drawnS (ds := []) mo H rfl rfl ?_)))))))
  have H := H.drew
  refine wa_take (i := 0) (l' := #[true, false, false, false, false, false, false, false, false]) rfl rfl rfl (by kernel_rfl) H (fun w H => (r_faddr fa_70_1 rfl)) (wa_take (i := 1) (l' := #[true, true, false, false, false, false, false, false, false]) rfl rfl rfl (by kernel_rfl) H (fun w H => (r_load sc_3 rfl (blk_cell (H.get 0 rfl) rfl))) (wa_take (i := 2) (l' := #[true, true, true, false, false, false, false, false, false]) rfl rfl rfl (by kernel_rfl) H (fun w H => (r_faddr fa_70_0 rfl)) (wa_take (i := 3) (l' := #[true, true, true, true, false, false, false, false, false]) rfl rfl rfl (by kernel_rfl) H (fun w H => (r_loadB (l := [.int .i64 a0.1.1, .int .i64 a0.1.2.1, .int .i64 a0.1.2.2]) ag_23 (H.get 0 rfl) rfl rfl rfl)) ?_)))
  obtain ⟨x2, E3, E⟩ := bind_some E
  refine wa_one (i := 4) (l' := #[true, true, true, true, true, false, false, false, false]) rfl rfl rfl (by kernel_rfl) (y_callL en_36 rfl ((code_Space.calls E3).mono ?_))
  rintro _ w ⟨rfl, K⟩
  have H := H.app K
  refine ⟨_, rfl, ⟨fun _ => H.sel [0] rfl rfl, (wa_take (i := 5) (l' := #[true, true, true, true, true, true, false, false, false]) rfl rfl rfl (by kernel_rfl) (H.sel [0] rfl rfl) (fun w H => (r_add rfl rfl)) (wa_take (i := 6) (l' := #[true, true, true, true, true, true, true, false, false]) rfl rfl rfl (by kernel_rfl) (H.sel [0] rfl rfl) (fun w H => (r_quo rfl rfl (by decide))) (wa_take (i := 7) (l' := #[true, true, true, true, true, true, true, true, false]) rfl rfl rfl (by kernel_rfl) (H.sel [0] rfl rfl) (fun w H => (r_geq rfl rfl)) (wa_take (i := 8) (l' := #[true, true, true, true, true, true, true, true, true]) rfl rfl rfl (by kernel_rfl) (H.sel [0] rfl rfl) (fun w H => (sg (.bool (decide (IntKind.i64.wrap (Int.tdiv (IntKind.i64.wrap (x2 + 1)) 2) ≤ a0.2))) rfl)) (wa_done (by kernel_rfl) (n_thn (wc_ret ?_)))))))⟩⟩
  cases E
  exact ⟨.inl rfl, _, resN rfl (rv_t rv_nil), rfl, H.sub0⟩
end Go.Proofs.Ythfhhnlnlcbckaa.Gw
