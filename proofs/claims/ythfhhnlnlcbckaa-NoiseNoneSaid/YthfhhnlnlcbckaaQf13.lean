/- erratum/erratumlaw19.known -/
/- PRINTED by gwmain.py of this project. -/
import Derived.Test.YthfhhnlnlcbckaaQ0
import Derived.Test.YthfhhnlnlcbckaaQf15
import Derived.Test.YthfhhnlnlcbckaaQf16
import Derived.Test.YthfhhnlnlcbckaaQf17
namespace Go.Proofs.Ythfhhnlnlcbckaa.Gw
open Go Go.RowKit
set_option linter.unusedVariables false
set_option linter.unusedSimpArgs false
def law19_known.f (k : Nat)  : Option (Bool) := (pick_Choose.f (20, 10, 0) 5 (0, 0)).bind fun x1 => bif decide (x1.2 = 0) then (bif (x1.1.1 == 2) && (x1.1.2 == 3) then ((pick_Right.f (4, 0)).bind fun x6 => bif decide (x6 = 11) then ((pick_All.f k).bind fun x9 => some (decide ((x9.length : Int) = 9))) else (some false)) else (some false)) else (some false)
set_option maxRecDepth 100000 in
set_option maxHeartbeats 4000000 in
theorem law19_known.calls {w0 : World} {k : Nat} {r : Bool}  (E : law19_known.f k  = some r) :
    Calls Try.prog 13 #[] w0 fun e w' => e = .returned (.bool r) ∧ St no w0 w' [] := by
  have H := St.nil no w0
  unfold law19_known.f at E
  refine calls_of_wc (N := 26) (args := []) Try.func13 rfl rfl (by simp) ?_
  refine rg (v_ rfl (sg (.bool false) rfl) (nl (rg (v_ rfl (r_build (cs := [.int .i64 20, .int .i64 10, .int .i64 0]) bd_23 rfl) (v_ rfl (r_build (cs := [.int .i64 0, .int .i64 0]) bd_25 rfl) ?_)))))
  obtain ⟨x1, E2, E⟩ := bind_some E
  refine e_ rfl (y_callL en_15 rfl ((pick_Choose.calls E2).mono ?_))
  rintro _ w ⟨rfl, K⟩
  have H := H.app K
  refine ⟨_, rfl, (v_ rfl (r_move) (v_ rfl (r_extract rfl rfl) (v_ rfl (r_extract rfl rfl) (e_ rfl (y_allocS zr_25 H (fun b3 w H => (s_ (y_storeBA sz_25 H 0 rfl rfl rfl rfl rfl rfl (fun w H => (v_ rfl (sg (.int .u16 x1.2) rfl) (nl (rg (v_ rfl (mv (.int .u16 x1.2) rfl) (v_ rfl (r_eql rfl rfl) (v_ rfl (mv (.bool (decide (x1.2 = 0))) rfl) ?_)))))))))))))))⟩
  rcases Bool.eq_false_or_eq_true (decide (x1.2 = 0)) with c4 | c4
  · have E := iT c4 E
    refine on_ c4 rfl rfl (r_loadB (l := [.int .i64 x1.1.1, .int .i64 x1.1.2]) ag_25 (H.get 0 rfl) rfl rfl rfl) (on_ c4 rfl rfl (r_build (cs := [.int .i64 2, .int .i64 3]) bd_25 rfl) (on_ c4 rfl rfl (r_eqlA (by kernel_rfl) (eqs0_25 _ x1.1.1 2 x1.1.2 3) rfl rfl) (v_ rfl (pT (.bool ((x1.1.1 == 2) && (x1.1.2 == 3))) rfl rfl c4) (v_ rfl (mv (.bool ((x1.1.1 == 2) && (x1.1.2 == 3))) rfl) ?_))))
    rcases Bool.eq_false_or_eq_true ((x1.1.1 == 2) && (x1.1.2 == 3)) with c5 | c5
    · have E := iT c5 E
      refine on_ c5 rfl rfl (r_build (cs := [.int .i64 4, .int .i64 0]) bd_25 rfl) ?_
      obtain ⟨x6, E7, E⟩ := bind_some E
      refine wl_on rfl c5 rfl (y_callL en_17 rfl ((pick_Right.calls E7).mono ?_))
      rintro _ w ⟨rfl, K⟩
      have H := H.app K
      refine ⟨_, rfl, (on_ c5 rfl rfl (r_eql rfl rfl) (v_ rfl (pT (.bool (decide (x6 = 11))) rfl rfl c5) (v_ rfl (mv (.bool (decide (x6 = 11))) rfl) ?_)))⟩
      rcases Bool.eq_false_or_eq_true (decide (x6 = 11)) with c8 | c8
      · have E := iT c8 E
        obtain ⟨x9, E10, E⟩ := bind_some E
        refine wl_on rfl c8 rfl (y_callL en_16 rfl ((pick_All.calls E10).mono ?_))
        rintro _ w ⟨v11, rfl, K⟩
        have H := H.app K
        refine ⟨_, rfl, ?_⟩
        have H : St no w0 w [.blk b3 #[.int .i64 x1.1.1, .int .i64 x1.1.2] 25, .own (.pr (.int .i64) (.int .i64)) 25 v11 x9] := H
        refine on_ c8 rfl rfl (r_lenR ul_35 (own_rd (H.get 1 rfl)) rfl) (on_ c8 rfl rfl (r_eql rfl rfl) (v_ rfl (pT (.bool (decide ((x9.length : Int) = 9))) rfl rfl c8) (v_ rfl (sg (.bool (decide ((x9.length : Int) = 9))) rfl) (nl (wc_ret ?_)))))
        cases E
        exact ⟨.inl rfl, _, resN rfl (rv_t rv_nil), rfl, H.sub0⟩
      · have E := iF c8 E
        refine off_ c8 rfl rfl rfl (off_ c8 rfl rfl rfl (off_ c8 rfl rfl rfl (v_ rfl (pF (.bool false) rfl rfl c8) (v_ rfl (sg (.bool false) rfl) (nl (wc_ret ?_))))))
        cases E
        exact ⟨.inl rfl, _, resN rfl (rv_t rv_nil), rfl, H.sub0⟩
    · have E := iF c5 E
      refine off_ c5 rfl rfl rfl (off_ c5 rfl rfl rfl (off_ c5 rfl rfl rfl (v_ rfl (pF (.bool false) rfl rfl c5) (v_ rfl (mv (.bool false) rfl) (off_ rfl rfl rfl rfl (off_ rfl rfl rfl rfl (off_ rfl rfl rfl rfl (v_ rfl (pF (.bool false) rfl rfl rfl) (v_ rfl (sg (.bool false) rfl) (nl (wc_ret ?_)))))))))))
      cases E
      exact ⟨.inl rfl, _, resN rfl (rv_t rv_nil), rfl, H.sub0⟩
  · have E := iF c4 E
    refine off_ c4 rfl rfl rfl (off_ c4 rfl rfl rfl (off_ c4 rfl rfl rfl (v_ rfl (pF (.bool false) rfl rfl c4) (v_ rfl (mv (.bool false) rfl) (off_ rfl rfl rfl rfl (off_ rfl rfl rfl rfl (off_ rfl rfl rfl rfl (v_ rfl (pF (.bool false) rfl rfl rfl) (v_ rfl (mv (.bool false) rfl) (off_ rfl rfl rfl rfl (off_ rfl rfl rfl rfl (off_ rfl rfl rfl rfl (v_ rfl (pF (.bool false) rfl rfl rfl) (v_ rfl (sg (.bool false) rfl) (nl (wc_ret ?_))))))))))))))))
    cases E
    exact ⟨.inl rfl, _, resN rfl (rv_t rv_nil), rfl, H.sub0⟩
end Go.Proofs.Ythfhhnlnlcbckaa.Gw
