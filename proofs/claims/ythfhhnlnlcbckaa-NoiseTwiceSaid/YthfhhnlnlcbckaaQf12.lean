/- erratum/erratumlaw10.Code -/
/- PRINTED by gwmain.py of this project. -/
import Derived.Test.YthfhhnlnlcbckaaQ0
namespace Go.Proofs.Ythfhhnlnlcbckaa.Gw
open Go Go.RowKit
set_option linter.unusedVariables false
set_option linter.unusedSimpArgs false
def law10_Code.j0 (a1 : Int) (a2 : Int) (x4 : Int) : Option ((Int × Int × Int)) := grd (decide (IntKind.i64.wrap (x4 - 1) ≠ 0)) (some ((x4, IntKind.i64.wrap (1 + (Int.tmod (IntKind.i64.wrap a1) (IntKind.i64.wrap (x4 - 1)))), Int.tmod (IntKind.i64.wrap a2) 255)))
def law10_Code.f (a0 : Int) (a1 : Int) (a2 : Int) : Option ((Int × Int × Int)) := bif decide (Int.tmod a0 32 = 31) then (law10_Code.j0 a1 a2 (IntKind.i64.wrap (30 + (IntKind.i64.wrap (Int.tmod a1 40))))) else (law10_Code.j0 a1 a2 (IntKind.i64.wrap (2 + (IntKind.i64.wrap (Int.tmod a0 21)))))
set_option maxRecDepth 100000 in
set_option maxHeartbeats 4000000 in
theorem law10_Code.calls {w0 : World} {a0 : Int} {a1 : Int} {a2 : Int} {r : (Int × Int × Int)}  (E : law10_Code.f a0 a1 a2 = some r) :
    Calls Try.prog 12 #[.int .u8 a0, .int .u8 a1, .int .u8 a2] w0 fun e w' => e = .returned (.agg #[.int .i64 r.1, .int .i64 r.2.1, .int .i64 r.2.2]) ∧ St no w0 w' [] := by
  have H := St.nil no w0
  unfold law10_Code.f at E
  refine calls_of_wc (N := 33) (args := [.int .u8 a0, .int .u8 a1, .int .u8 a2]) Try.func12 rfl rfl (by simp) ?_
  obtain ⟨k, _⟩ : ∃ k : Nat, k = 0 := ⟨0, rfl⟩
  refine rg (e_ rfl (y_allocS zr_23 H (fun b1 w H => (nl (rg (v_ rfl (mv (.int .u8 a0) rfl) (v_ rfl (r_rem rfl rfl (by decide)) (v_ rfl (r_conv rfl Try.underlying5 Try.underlying3) (v_ rfl (r_add rfl rfl) (v_ rfl (mv (.int .u8 a2) rfl) (v_ rfl (r_conv rfl Try.underlying5 Try.underlying3) (v_ rfl (r_rem rfl rfl (by decide)) (v_ rfl (r_build (cs := [.int .i64 (IntKind.i64.wrap (2 + (IntKind.i64.wrap (Int.tmod a0 21)))), .int .i64 0, .int .i64 (Int.tmod (IntKind.i64.wrap a2) 255)]) bd_23 rfl) (e_ rfl (y_allocS zr_23 H (fun b2 w H => (s_ (y_storeBA sz_23 H 1 rfl rfl rfl rfl rfl rfl (fun w H => (nl ?_))))))))))))))))))))
  refine wc_seqJ (fun t w => ∃ (k6 : Nat) (x4 : Int) (t5 : Fr), k6 ≤ k ∧ law10_Code.j0 a1 a2 x4 = some r ∧ t = upds t5 [(1, .int .u8 a1), (6, .pointer (some ⟨b1, 0, none⟩)), (7, .pointer (some ⟨b2, 0, none⟩))] ∧ St no w0 w [.blk b1 #[.int .i64 0, .int .i64 0, .int .i64 0] 23, .blk b2 #[.int .i64 x4, .int .i64 0, .int .i64 (Int.tmod (IntKind.i64.wrap a2) 255)] 23]) ?_ ?_
  · refine rg (v_ rfl (mv (.int .u8 a0) rfl) (v_ rfl (r_rem rfl rfl (by decide)) (v_ rfl (r_eql rfl rfl) (nl ?_))))
    refine wc_cond rfl (fun c8 => ?_) (fun c8 => ?_)
    · have E := iT c8 E
      refine wc_region (v_ rfl (mv (.int .u8 a1) rfl) (v_ rfl (r_rem rfl rfl (by decide)) (v_ rfl (r_conv rfl Try.underlying5 Try.underlying3) (v_ rfl (r_add rfl rfl) (v_ rfl (r_faddr fa_23_0 rfl) (s_ (y_storeB sz_3 H 1 rfl rfl rfl rfl rfl (fun w H => (wl_nil ?_)))))))))
      exact ⟨k, _, _, Nat.le_refl _, E, upds_eq ⟨rfl, rfl, rfl, trivial⟩, H⟩
    · have E := iF c8 E
      refine wc_skip ?_
      exact ⟨k, _, _, Nat.le_refl _, E, upds_eq ⟨rfl, rfl, rfl, trivial⟩, H⟩
  rintro t w ⟨k6, x4, t5, hk7, E, rfl, H⟩
  unfold law10_Code.j0 at E
  refine rg (v_ rfl (mv (.int .u8 a1) rfl) (v_ rfl (r_conv rfl Try.underlying5 Try.underlying3) (v_ rfl (r_faddr fa_23_0 rfl) (v_ rfl (r_load sc_3 rfl (blk_cell (H.get 1 rfl) rfl)) (v_ rfl (r_sub rfl rfl) ?_)))))
  obtain ⟨g9, E⟩ := grd_some E
  refine v_ rfl (r_rem rfl rfl g9) (v_ rfl (r_add rfl rfl) (v_ rfl (r_faddr fa_23_1 rfl) (s_ (y_storeB sz_3 H 1 rfl rfl rfl rfl rfl (fun w H => (nl (rg (v_ rfl (r_loadB (l := [.int .i64 x4, .int .i64 (IntKind.i64.wrap (1 + (Int.tmod (IntKind.i64.wrap a1) (IntKind.i64.wrap (x4 - 1))))), .int .i64 (Int.tmod (IntKind.i64.wrap a2) 255)]) ag_23 (H.get 1 rfl) rfl rfl rfl) (s_ (y_storeBA sz_23 H 0 rfl rfl rfl rfl rfl rfl (fun w H => (nl (wc_ret ?_)))))))))))))
  cases E
  exact ⟨.inl rfl, _, resN rfl (rv_c rfl ag_23 (blk_range (n := 3) (H.get 0 rfl) rfl) rfl rv_nil), rfl, H.sub0⟩
end Go.Proofs.Ythfhhnlnlcbckaa.Gw
