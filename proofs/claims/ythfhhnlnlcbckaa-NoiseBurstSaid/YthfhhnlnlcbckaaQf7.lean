/- erratum/erratumlaw19.PickMore -/
/- PRINTED by gwmain.py of this project. -/
import Derived.Test.YthfhhnlnlcbckaaQ0
import Derived.Test.YthfhhnlnlcbckaaQf12
import Derived.Test.YthfhhnlnlcbckaaQf13
import Derived.Test.YthfhhnlnlcbckaaQf15
namespace Go.Proofs.Ythfhhnlnlcbckaa.Gw
open Go Go.RowKit
set_option linter.unusedVariables false
set_option linter.unusedSimpArgs false
def law19_PickMore.f (k : Nat) (a0 : Int) (a1 : Int) (a2 : Int) (a3 : Int) (a4 : Int) : Option (Bool) := (law10_Code.f a0 a1 a2).bind fun x1 => (pick_Choose.f (x1.1, x1.2.1, x1.2.2) (IntKind.i64.wrap a3) (0, 0)).bind fun x4 => (pick_Choose.f (x1.1, x1.2.1, x1.2.2) (IntKind.i64.wrap ((IntKind.i64.wrap a3) + (IntKind.i64.wrap a4))) (0, 0)).bind fun x7 => (law19_known.f k).bind fun x10 => bif x10 then (bif decide (x4.1.2 = x7.1.2) then (bif decide (x4.1.1 = x7.1.1) then (some true) else (bif decide (x4.1.1 = 1) then (some (decide (x7.1.1 = 2))) else (some false))) else (some false)) else (some false)
set_option maxRecDepth 100000 in
set_option maxHeartbeats 4000000 in
theorem law19_PickMore.calls {w0 : World} {k : Nat} {a0 : Int} {a1 : Int} {a2 : Int} {a3 : Int} {a4 : Int} {r : Bool}  (E : law19_PickMore.f k a0 a1 a2 a3 a4 = some r) :
    Calls Try.prog 7 #[.int .u8 a0, .int .u8 a1, .int .u8 a2, .int .u8 a3, .int .u8 a4] w0 fun e w' => e = .returned (.bool r) ∧ St no w0 w' [] := by
  have H := St.nil no w0
  unfold law19_PickMore.f at E
  refine calls_of_wc (N := 64) (args := [.int .u8 a0, .int .u8 a1, .int .u8 a2, .int .u8 a3, .int .u8 a4]) Try.func7 rfl rfl (by simp) ?_
  refine rg (v_ rfl (sg (.bool false) rfl) (nl (rg (v_ rfl (mv (.int .u8 a0) rfl) (v_ rfl (mv (.int .u8 a1) rfl) (v_ rfl (mv (.int .u8 a2) rfl) ?_))))))
  obtain ⟨x1, E2, E⟩ := bind_some E
  refine e_ rfl (y_callL en_12 rfl ((law10_Code.calls E2).mono ?_))
  rintro _ w ⟨rfl, K⟩
  have H := H.app K
  refine ⟨_, rfl, (e_ rfl (y_allocS zr_23 H (fun b3 w H => (s_ (y_storeBA sz_23 H 0 rfl rfl rfl rfl rfl rfl (fun w H => (nl (rg (v_ rfl (r_loadB (l := [.int .i64 x1.1, .int .i64 x1.2.1, .int .i64 x1.2.2]) ag_23 (H.get 0 rfl) rfl rfl rfl) (v_ rfl (mv (.int .u8 a3) rfl) (v_ rfl (r_conv rfl Try.underlying5 Try.underlying3) (v_ rfl (r_build (cs := [.int .i64 0, .int .i64 0]) bd_25 rfl) ?_))))))))))))⟩
  obtain ⟨x4, E5, E⟩ := bind_some E
  refine e_ rfl (y_callL en_15 rfl ((pick_Choose.calls E5).mono ?_))
  rintro _ w ⟨rfl, K⟩
  have H := H.app K
  refine ⟨_, rfl, (v_ rfl (r_move) (v_ rfl (r_extract rfl rfl) (v_ rfl (r_extract rfl rfl) (e_ rfl (y_allocS zr_25 H (fun b6 w H => ?_))))))⟩
  have H : St no w0 w [.blk b3 #[.int .i64 x1.1, .int .i64 x1.2.1, .int .i64 x1.2.2] 23, .blk b6 #[.int .i64 0, .int .i64 0] 25] := H
  refine s_ (y_storeBA sz_25 H 1 rfl rfl rfl rfl rfl rfl (fun w H => (v_ rfl (sg (.int .u16 x4.2) rfl) (nl (rg (v_ rfl (r_loadB (l := [.int .i64 x1.1, .int .i64 x1.2.1, .int .i64 x1.2.2]) ag_23 (H.get 0 rfl) rfl rfl rfl) (v_ rfl (mv (.int .u8 a3) rfl) (v_ rfl (r_conv rfl Try.underlying5 Try.underlying3) (v_ rfl (mv (.int .u8 a4) rfl) (v_ rfl (r_conv rfl Try.underlying5 Try.underlying3) (v_ rfl (r_add rfl rfl) (v_ rfl (r_build (cs := [.int .i64 0, .int .i64 0]) bd_25 rfl) ?_))))))))))))
  obtain ⟨x7, E8, E⟩ := bind_some E
  refine e_ rfl (y_callL en_15 rfl ((pick_Choose.calls E8).mono ?_))
  rintro _ w ⟨rfl, K⟩
  have H := H.app K
  refine ⟨_, rfl, (v_ rfl (r_move) (v_ rfl (r_extract rfl rfl) (v_ rfl (r_extract rfl rfl) (e_ rfl (y_allocS zr_25 H (fun b9 w H => (s_ (y_storeBA sz_25 H 2 rfl rfl rfl rfl rfl rfl (fun w H => (v_ rfl (sg (.int .u16 x7.2) rfl) (nl (rg ?_))))))))))))⟩
  obtain ⟨x10, E11, E⟩ := bind_some E
  refine e_ rfl (y_callL en_13 rfl ((law19_known.calls E11).mono ?_))
  rintro _ w ⟨rfl, K⟩
  have H := H.app K
  refine ⟨_, rfl, ?_⟩
  have H : St no w0 w [.blk b3 #[.int .i64 x1.1, .int .i64 x1.2.1, .int .i64 x1.2.2] 23, .blk b6 #[.int .i64 x4.1.1, .int .i64 x4.1.2] 25, .blk b9 #[.int .i64 x7.1.1, .int .i64 x7.1.2] 25] := H
  refine v_ rfl (mv (.bool x10) rfl) ?_
  rcases Bool.eq_false_or_eq_true (x10) with c12 | c12
  · have E := iT c12 E
    refine on_ c12 rfl rfl (r_faddr fa_25_1 rfl) (on_ c12 rfl rfl (r_load sc_3 rfl (blk_cell (H.get 1 rfl) rfl)) (on_ c12 rfl rfl (r_faddr fa_25_1 rfl) (on_ c12 rfl rfl (r_load sc_3 rfl (blk_cell (H.get 2 rfl) rfl)) (on_ c12 rfl rfl (r_eql rfl rfl) (v_ rfl (pT (.bool (decide (x4.1.2 = x7.1.2))) rfl rfl c12) (v_ rfl (mv (.bool (decide (x4.1.2 = x7.1.2))) rfl) ?_))))))
    rcases Bool.eq_false_or_eq_true (decide (x4.1.2 = x7.1.2)) with c13 | c13
    · have E := iT c13 E
      refine on_ c13 rfl rfl (r_faddr fa_25_0 rfl) (on_ c13 rfl rfl (r_load sc_3 rfl (blk_cell (H.get 1 rfl) rfl)) (on_ c13 rfl rfl (r_faddr fa_25_0 rfl) (on_ c13 rfl rfl (r_load sc_3 rfl (blk_cell (H.get 2 rfl) rfl)) (on_ c13 rfl rfl (r_eql rfl rfl) (on_ c13 rfl rfl (mv (.bool (decide (x4.1.1 = x7.1.1))) rfl) ?_)))))
      rcases Bool.eq_false_or_eq_true (decide (x4.1.1 = x7.1.1)) with c14 | c14
      · have E := iT c14 E
        refine off_ c14 rfl rfl rfl (off_ c14 rfl rfl rfl (off_ c14 rfl rfl rfl (off_ c14 rfl rfl rfl (offN_ rfl rfl (offN_ rfl rfl (offN_ rfl rfl (off_ c14 rfl rfl rfl (on_ c13 rfl rfl (pT (.bool true) rfl rfl c14) (v_ rfl (pT (.bool true) rfl rfl c13) (v_ rfl (sg (.bool true) rfl) (nl (wc_ret ?_))))))))))))
        cases E
        exact ⟨.inl rfl, _, resN rfl (rv_t rv_nil), rfl, H.sub0⟩
      · have E := iF c14 E
        refine on_ c14 rfl rfl (r_faddr fa_25_0 rfl) (on_ c14 rfl rfl (r_load sc_3 rfl (blk_cell (H.get 1 rfl) rfl)) (on_ c14 rfl rfl (r_eql rfl rfl) (on_ c14 rfl rfl (mv (.bool (decide (x4.1.1 = 1))) rfl) ?_)))
        rcases Bool.eq_false_or_eq_true (decide (x4.1.1 = 1)) with c15 | c15
        · have E := iT c15 E
          refine on_ c15 rfl rfl (r_faddr fa_25_0 rfl) (on_ c15 rfl rfl (r_load sc_3 rfl (blk_cell (H.get 2 rfl) rfl)) (on_ c15 rfl rfl (r_eql rfl rfl) (on_ c14 rfl rfl (pT (.bool (decide (x7.1.1 = 2))) rfl rfl c15) (on_ c13 rfl rfl (pF (.bool (decide (x7.1.1 = 2))) rfl rfl c14) (v_ rfl (pT (.bool (decide (x7.1.1 = 2))) rfl rfl c13) (v_ rfl (sg (.bool (decide (x7.1.1 = 2))) rfl) (nl (wc_ret ?_))))))))
          cases E
          exact ⟨.inl rfl, _, resN rfl (rv_t rv_nil), rfl, H.sub0⟩
        · have E := iF c15 E
          refine off_ c15 rfl rfl rfl (off_ c15 rfl rfl rfl (off_ c15 rfl rfl rfl (on_ c14 rfl rfl (pF (.bool false) rfl rfl c15) (on_ c13 rfl rfl (pF (.bool false) rfl rfl c14) (v_ rfl (pT (.bool false) rfl rfl c13) (v_ rfl (sg (.bool false) rfl) (nl (wc_ret ?_))))))))
          cases E
          exact ⟨.inl rfl, _, resN rfl (rv_t rv_nil), rfl, H.sub0⟩
    · have E := iF c13 E
      refine off_ c13 rfl rfl rfl (off_ c13 rfl rfl rfl (off_ c13 rfl rfl rfl (off_ c13 rfl rfl rfl (off_ c13 rfl rfl rfl (off_ c13 rfl rfl rfl (offN_ rfl rfl (offN_ rfl rfl (offN_ rfl rfl (offN_ rfl rfl (offN_ rfl rfl (offN_ rfl rfl (offN_ rfl rfl (offN_ rfl rfl (off_ c13 rfl rfl rfl (v_ rfl (pF (.bool false) rfl rfl c13) (v_ rfl (sg (.bool false) rfl) (nl (wc_ret ?_))))))))))))))))))
      cases E
      exact ⟨.inl rfl, _, resN rfl (rv_t rv_nil), rfl, H.sub0⟩
  · have E := iF c12 E
    refine off_ c12 rfl rfl rfl (off_ c12 rfl rfl rfl (off_ c12 rfl rfl rfl (off_ c12 rfl rfl rfl (off_ c12 rfl rfl rfl (v_ rfl (pF (.bool false) rfl rfl c12) (v_ rfl (mv (.bool false) rfl) (off_ rfl rfl rfl rfl (off_ rfl rfl rfl rfl (off_ rfl rfl rfl rfl (off_ rfl rfl rfl rfl (off_ rfl rfl rfl rfl (off_ rfl rfl rfl rfl (offN_ rfl rfl (offN_ rfl rfl (offN_ rfl rfl (offN_ rfl rfl (offN_ rfl rfl (offN_ rfl rfl (offN_ rfl rfl (offN_ rfl rfl (off_ rfl rfl rfl rfl (v_ rfl (pF (.bool false) rfl rfl rfl) (v_ rfl (sg (.bool false) rfl) (nl (wc_ret ?_)))))))))))))))))))))))))
    cases E
    exact ⟨.inl rfl, _, resN rfl (rv_t rv_nil), rfl, H.sub0⟩
end Go.Proofs.Ythfhhnlnlcbckaa.Gw
