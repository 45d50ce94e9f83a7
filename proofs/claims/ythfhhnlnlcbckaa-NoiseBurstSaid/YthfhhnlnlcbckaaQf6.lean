/- erratum/erratumlaw19.PickErrors -/
/- PRINTED by gwmain.py of this project. -/
import Derived.Test.YthfhhnlnlcbckaaQ0
import Derived.Test.YthfhhnlnlcbckaaQf12
import Derived.Test.YthfhhnlnlcbckaaQf13
import Derived.Test.YthfhhnlnlcbckaaQf15
import Derived.Test.YthfhhnlnlcbckaaQf17
namespace Go.Proofs.Ythfhhnlnlcbckaa.Gw
open Go Go.RowKit
set_option linter.unusedVariables false
set_option linter.unusedSimpArgs false
def law19_PickErrors.j0 (k : Nat) (a3 : Int) (a4 : Int) (a5 : Int) (x1 : (Int × Int × Int)) (x9 : Bool) : Option (Bool) := (pick_Choose.f (x1.1, 0, x1.2.2) a5 (a3, a4)).bind fun x16 => (pick_Choose.f (x1.1, x1.2.1, x1.2.2) a5 (a3, a4)).bind fun x19 => (law19_known.f k).bind fun x22 => bif x22 then (bif decide (x16.2 = 10) then (bif (decide (x19.2 = 0)) == x9 then (bif x9 then ((pick_Right.f (a3, a4)).bind fun x28 => some ((decide (x28 = 0)) == x9)) else (bif decide (x19.2 = 11) then ((pick_Right.f (a3, a4)).bind fun x31 => some ((decide (x31 = 0)) == x9)) else (some false))) else (some false)) else (some false)) else (some false)
def law19_PickErrors.f (k : Nat) (a0 : Int) (a1 : Int) (a2 : Int) (a3 : Int) (a4 : Int) (a5 : Int) : Option (Bool) := (law10_Code.f a0 a1 a2).bind fun x1 => bif decide (0 ≤ a3) then (bif decide (a3 ≤ 3) then (bif decide (0 ≤ a4) then (law19_PickErrors.j0 k a3 a4 a5 x1 (decide (a4 ≤ 3))) else (law19_PickErrors.j0 k a3 a4 a5 x1 false)) else (law19_PickErrors.j0 k a3 a4 a5 x1 false)) else (law19_PickErrors.j0 k a3 a4 a5 x1 false)
set_option maxRecDepth 100000 in
set_option maxHeartbeats 4000000 in
theorem law19_PickErrors.calls {w0 : World} {k : Nat} {a0 : Int} {a1 : Int} {a2 : Int} {a3 : Int} {a4 : Int} {a5 : Int} {r : Bool}  (E : law19_PickErrors.f k a0 a1 a2 a3 a4 a5 = some r) :
    Calls Try.prog 6 #[.int .u8 a0, .int .u8 a1, .int .u8 a2, .int .i64 a3, .int .i64 a4, .int .i64 a5] w0 fun e w' => e = .returned (.bool r) ∧ St no w0 w' [] := by
  have H := St.nil no w0
  unfold law19_PickErrors.f at E
  refine calls_of_wc (N := 83) (args := [.int .u8 a0, .int .u8 a1, .int .u8 a2, .int .i64 a3, .int .i64 a4, .int .i64 a5]) Try.func6 rfl rfl (by simp) ?_
  refine rg (v_ rfl (sg (.bool false) rfl) (nl (rg (v_ rfl (mv (.int .u8 a0) rfl) (v_ rfl (mv (.int .u8 a1) rfl) (v_ rfl (mv (.int .u8 a2) rfl) ?_))))))
  obtain ⟨x1, E2, E⟩ := bind_some E
  refine e_ rfl (y_callL en_12 rfl ((law10_Code.calls E2).mono ?_))
  rintro _ w ⟨rfl, K⟩
  have H := H.app K
  refine ⟨_, rfl, (e_ rfl (y_allocS zr_23 H (fun b3 w H => (s_ (y_storeBA sz_23 H 0 rfl rfl rfl rfl rfl rfl (fun w H => (nl (rg (v_ rfl (r_loadB (l := [.int .i64 x1.1, .int .i64 x1.2.1, .int .i64 x1.2.2]) ag_23 (H.get 0 rfl) rfl rfl rfl) (e_ rfl (y_allocS zr_23 H (fun b4 w H => (s_ (y_storeBA sz_23 H 1 rfl rfl rfl rfl rfl rfl (fun w H => (nl (rg ?_)))))))))))))))))⟩
  have H : St no w0 w [.blk b3 #[.int .i64 x1.1, .int .i64 x1.2.1, .int .i64 x1.2.2] 23, .blk b4 #[.int .i64 x1.1, .int .i64 x1.2.1, .int .i64 x1.2.2] 23] := H
  refine v_ rfl (r_faddr fa_23_1 rfl) (s_ (y_storeB sz_3 H 1 rfl rfl rfl rfl rfl (fun w H => (nl (rg (v_ rfl (mv (.int .i64 a3) rfl) (v_ rfl (mv (.int .i64 a4) rfl) (v_ rfl (r_build (cs := [.int .i64 a3, .int .i64 a4]) bd_25 rfl) (e_ rfl (y_allocS zr_25 H (fun b5 w H => (s_ (y_storeBA sz_25 H 2 rfl rfl rfl rfl rfl rfl (fun w H => (nl ?_)))))))))))))))
  refine wc_seqJ (fun t w => ∃ (k11 : Nat) (x9 : Bool) (t10 : Fr), k11 ≤ k ∧ law19_PickErrors.j0 k11 a3 a4 a5 x1 x9 = some r ∧ t = upds t10 [(5, .int .i64 a5), (12, .bool false), (13, .pointer (some ⟨b3, 0, none⟩)), (14, .pointer (some ⟨b4, 0, none⟩)), (15, .pointer (some ⟨b5, 0, none⟩)), (16, .bool x9)] ∧ St no w0 w [.blk b3 #[.int .i64 x1.1, .int .i64 x1.2.1, .int .i64 x1.2.2] 23, .blk b4 #[.int .i64 x1.1, .int .i64 0, .int .i64 x1.2.2] 23, .blk b5 #[.int .i64 a3, .int .i64 a4] 25]) ?_ ?_
  · refine wc_region (v_ rfl (mv (.int .i64 a3) rfl) (v_ rfl (r_geq rfl rfl) (v_ rfl (mv (.bool (decide (0 ≤ a3))) rfl) ?_)))
    rcases Bool.eq_false_or_eq_true (decide (0 ≤ a3)) with c13 | c13
    · have E := iT c13 E
      refine on_ c13 rfl rfl (mv (.int .i64 a3) rfl) (on_ c13 rfl rfl (r_leq rfl rfl) (v_ rfl (pT (.bool (decide (a3 ≤ 3))) rfl rfl c13) (v_ rfl (mv (.bool (decide (a3 ≤ 3))) rfl) ?_)))
      rcases Bool.eq_false_or_eq_true (decide (a3 ≤ 3)) with c14 | c14
      · have E := iT c14 E
        refine on_ c14 rfl rfl (mv (.int .i64 a4) rfl) (on_ c14 rfl rfl (r_geq rfl rfl) (v_ rfl (pT (.bool (decide (0 ≤ a4))) rfl rfl c14) (v_ rfl (mv (.bool (decide (0 ≤ a4))) rfl) ?_)))
        rcases Bool.eq_false_or_eq_true (decide (0 ≤ a4)) with c15 | c15
        · have E := iT c15 E
          refine on_ c15 rfl rfl (mv (.int .i64 a4) rfl) (on_ c15 rfl rfl (r_leq rfl rfl) (v_ rfl (pT (.bool (decide (a4 ≤ 3))) rfl rfl c15) (v_ rfl (sg (.bool (decide (a4 ≤ 3))) rfl) (wl_nil ?_))))
          exact ⟨k, _, _, Nat.le_refl _, E, upds_eq ⟨rfl, rfl, rfl, rfl, rfl, rfl, trivial⟩, H⟩
        · have E := iF c15 E
          refine off_ c15 rfl rfl rfl (off_ c15 rfl rfl rfl (v_ rfl (pF (.bool false) rfl rfl c15) (v_ rfl (sg (.bool false) rfl) (wl_nil ?_))))
          exact ⟨k, _, _, Nat.le_refl _, E, upds_eq ⟨rfl, rfl, rfl, rfl, rfl, rfl, trivial⟩, H⟩
      · have E := iF c14 E
        refine off_ c14 rfl rfl rfl (off_ c14 rfl rfl rfl (v_ rfl (pF (.bool false) rfl rfl c14) (v_ rfl (mv (.bool false) rfl) (off_ rfl rfl rfl rfl (off_ rfl rfl rfl rfl (v_ rfl (pF (.bool false) rfl rfl rfl) (v_ rfl (sg (.bool false) rfl) (wl_nil ?_))))))))
        exact ⟨k, _, _, Nat.le_refl _, E, upds_eq ⟨rfl, rfl, rfl, rfl, rfl, rfl, trivial⟩, H⟩
    · have E := iF c13 E
      refine off_ c13 rfl rfl rfl (off_ c13 rfl rfl rfl (v_ rfl (pF (.bool false) rfl rfl c13) (v_ rfl (mv (.bool false) rfl) (off_ rfl rfl rfl rfl (off_ rfl rfl rfl rfl (v_ rfl (pF (.bool false) rfl rfl rfl) (v_ rfl (mv (.bool false) rfl) (off_ rfl rfl rfl rfl (off_ rfl rfl rfl rfl (v_ rfl (pF (.bool false) rfl rfl rfl) (v_ rfl (sg (.bool false) rfl) (wl_nil ?_))))))))))))
      exact ⟨k, _, _, Nat.le_refl _, E, upds_eq ⟨rfl, rfl, rfl, rfl, rfl, rfl, trivial⟩, H⟩
  rintro t w ⟨k11, x9, t10, hk12, E, rfl, H⟩
  unfold law19_PickErrors.j0 at E
  refine rg (v_ rfl (r_loadB (l := [.int .i64 x1.1, .int .i64 0, .int .i64 x1.2.2]) ag_23 (H.get 1 rfl) rfl rfl rfl) (v_ rfl (mv (.int .i64 a5) rfl) (v_ rfl (r_loadB (l := [.int .i64 a3, .int .i64 a4]) ag_25 (H.get 2 rfl) rfl rfl rfl) ?_)))
  obtain ⟨x16, E17, E⟩ := bind_some E
  refine e_ rfl (y_callL en_15 rfl ((pick_Choose.calls E17).mono ?_))
  rintro _ w ⟨rfl, K⟩
  have H := H.app K
  refine ⟨_, rfl, (v_ rfl (r_move) (v_ rfl (r_extract rfl rfl) (v_ rfl (r_extract rfl rfl) (e_ rfl (y_allocS zr_25 H (fun b18 w H => (s_ (y_storeBA sz_25 H 3 rfl rfl rfl rfl rfl rfl (fun w H => (v_ rfl (sg (.int .u16 x16.2) rfl) (nl (rg (v_ rfl (r_loadB (l := [.int .i64 x1.1, .int .i64 x1.2.1, .int .i64 x1.2.2]) ag_23 (H.get 0 rfl) rfl rfl rfl) (v_ rfl (mv (.int .i64 a5) rfl) (v_ rfl (r_loadB (l := [.int .i64 a3, .int .i64 a4]) ag_25 (H.get 2 rfl) rfl rfl rfl) ?_)))))))))))))))⟩
  obtain ⟨x19, E20, E⟩ := bind_some E
  refine e_ rfl (y_callL en_15 rfl ((pick_Choose.calls E20).mono ?_))
  rintro _ w ⟨rfl, K⟩
  have H := H.app K
  refine ⟨_, rfl, (v_ rfl (r_move) (v_ rfl (r_extract rfl rfl) (v_ rfl (r_extract rfl rfl) (e_ rfl (y_allocS zr_25 H (fun b21 w H => ?_))))))⟩
  have H : St no w0 w [.blk b3 #[.int .i64 x1.1, .int .i64 x1.2.1, .int .i64 x1.2.2] 23, .blk b4 #[.int .i64 x1.1, .int .i64 0, .int .i64 x1.2.2] 23, .blk b5 #[.int .i64 a3, .int .i64 a4] 25, .blk b18 #[.int .i64 x16.1.1, .int .i64 x16.1.2] 25, .blk b21 #[.int .i64 0, .int .i64 0] 25] := H
  refine s_ (y_storeBA sz_25 H 4 rfl rfl rfl rfl rfl rfl (fun w H => (v_ rfl (sg (.int .u16 x19.2) rfl) (nl (rg ?_)))))
  obtain ⟨x22, E23, E⟩ := bind_some E
  refine e_ rfl (y_callL en_13 rfl ((law19_known.calls E23).mono ?_))
  rintro _ w ⟨rfl, K⟩
  have H := H.app K
  refine ⟨_, rfl, (v_ rfl (mv (.bool x22) rfl) ?_)⟩
  rcases Bool.eq_false_or_eq_true (x22) with c24 | c24
  · have E := iT c24 E
    refine on_ c24 rfl rfl (mv (.int .u16 x16.2) rfl) (on_ c24 rfl rfl (r_eql rfl rfl) (v_ rfl (pT (.bool (decide (x16.2 = 10))) rfl rfl c24) (v_ rfl (mv (.bool (decide (x16.2 = 10))) rfl) ?_)))
    rcases Bool.eq_false_or_eq_true (decide (x16.2 = 10)) with c25 | c25
    · have E := iT c25 E
      refine on_ c25 rfl rfl (mv (.int .u16 x19.2) rfl) (on_ c25 rfl rfl (r_eql rfl rfl) (on_ c25 rfl rfl (mv (.bool x9) rfl) (on_ c25 rfl rfl (r_beql Try.underlying4 rfl rfl) (v_ rfl (pT (.bool ((decide (x19.2 = 0)) == x9)) rfl rfl c25) (v_ rfl (mv (.bool ((decide (x19.2 = 0)) == x9)) rfl) ?_)))))
      rcases Bool.eq_false_or_eq_true ((decide (x19.2 = 0)) == x9) with c26 | c26
      · have E := iT c26 E
        refine on_ c26 rfl rfl (mv (.bool x9) rfl) (on_ c26 rfl rfl (mv (.bool x9) rfl) ?_)
        rcases Bool.eq_false_or_eq_true (x9) with c27 | c27
        · have E := iT c27 E
          refine off_ c27 rfl rfl rfl (off_ c27 rfl rfl rfl (on_ c26 rfl rfl (pT (.bool true) rfl rfl c27) (v_ rfl (pT (.bool true) rfl rfl c26) (v_ rfl (mv (.bool true) rfl) (on_ rfl rfl rfl (r_loadB (l := [.int .i64 a3, .int .i64 a4]) ag_25 (H.get 2 rfl) rfl rfl rfl) ?_)))))
          obtain ⟨x28, E29, E⟩ := bind_some E
          refine wl_on rfl rfl rfl (y_callL en_17 rfl ((pick_Right.calls E29).mono ?_))
          rintro _ w ⟨rfl, K⟩
          have H := H.app K
          refine ⟨_, rfl, (on_ rfl rfl rfl (r_eql rfl rfl) (on_ rfl rfl rfl (mv (.bool x9) rfl) (on_ rfl rfl rfl (r_beql Try.underlying4 rfl rfl) (v_ rfl (pT (.bool ((decide (x28 = 0)) == x9)) rfl rfl rfl) (v_ rfl (sg (.bool ((decide (x28 = 0)) == x9)) rfl) (nl (wc_ret ?_)))))))⟩
          cases E
          exact ⟨.inl rfl, _, resN rfl (rv_t rv_nil), rfl, H.sub0⟩
        · have E := iF c27 E
          refine on_ c27 rfl rfl (mv (.int .u16 x19.2) rfl) (on_ c27 rfl rfl (r_eql rfl rfl) (on_ c26 rfl rfl (pF (.bool (decide (x19.2 = 11))) rfl rfl c27) (v_ rfl (pT (.bool (decide (x19.2 = 11))) rfl rfl c26) (v_ rfl (mv (.bool (decide (x19.2 = 11))) rfl) ?_))))
          rcases Bool.eq_false_or_eq_true (decide (x19.2 = 11)) with c30 | c30
          · have E := iT c30 E
            refine on_ c30 rfl rfl (r_loadB (l := [.int .i64 a3, .int .i64 a4]) ag_25 (H.get 2 rfl) rfl rfl rfl) ?_
            obtain ⟨x31, E32, E⟩ := bind_some E
            refine wl_on rfl c30 rfl (y_callL en_17 rfl ((pick_Right.calls E32).mono ?_))
            rintro _ w ⟨rfl, K⟩
            have H := H.app K
            refine ⟨_, rfl, (on_ c30 rfl rfl (r_eql rfl rfl) (on_ c30 rfl rfl (mv (.bool x9) rfl) (on_ c30 rfl rfl (r_beql Try.underlying4 rfl rfl) (v_ rfl (pT (.bool ((decide (x31 = 0)) == x9)) rfl rfl c30) (v_ rfl (sg (.bool ((decide (x31 = 0)) == x9)) rfl) (nl (wc_ret ?_)))))))⟩
            cases E
            exact ⟨.inl rfl, _, resN rfl (rv_t rv_nil), rfl, H.sub0⟩
          · have E := iF c30 E
            refine off_ c30 rfl rfl rfl (off_ c30 rfl rfl rfl (off_ c30 rfl rfl rfl (off_ c30 rfl rfl rfl (off_ c30 rfl rfl rfl (v_ rfl (pF (.bool false) rfl rfl c30) (v_ rfl (sg (.bool false) rfl) (nl (wc_ret ?_))))))))
            cases E
            exact ⟨.inl rfl, _, resN rfl (rv_t rv_nil), rfl, H.sub0⟩
      · have E := iF c26 E
        refine off_ c26 rfl rfl rfl (off_ c26 rfl rfl rfl (offN_ rfl rfl (offN_ rfl rfl (off_ c26 rfl rfl rfl (v_ rfl (pF (.bool false) rfl rfl c26) (v_ rfl (mv (.bool false) rfl) (off_ rfl rfl rfl rfl (off_ rfl rfl rfl rfl (off_ rfl rfl rfl rfl (off_ rfl rfl rfl rfl (off_ rfl rfl rfl rfl (v_ rfl (pF (.bool false) rfl rfl rfl) (v_ rfl (sg (.bool false) rfl) (nl (wc_ret ?_)))))))))))))))
        cases E
        exact ⟨.inl rfl, _, resN rfl (rv_t rv_nil), rfl, H.sub0⟩
    · have E := iF c25 E
      refine off_ c25 rfl rfl rfl (off_ c25 rfl rfl rfl (off_ c25 rfl rfl rfl (off_ c25 rfl rfl rfl (v_ rfl (pF (.bool false) rfl rfl c25) (v_ rfl (mv (.bool false) rfl) (off_ rfl rfl rfl rfl (off_ rfl rfl rfl rfl (offN_ rfl rfl (offN_ rfl rfl (off_ rfl rfl rfl rfl (v_ rfl (pF (.bool false) rfl rfl rfl) (v_ rfl (mv (.bool false) rfl) (off_ rfl rfl rfl rfl (off_ rfl rfl rfl rfl (off_ rfl rfl rfl rfl (off_ rfl rfl rfl rfl (off_ rfl rfl rfl rfl (v_ rfl (pF (.bool false) rfl rfl rfl) (v_ rfl (sg (.bool false) rfl) (nl (wc_ret ?_)))))))))))))))))))))
      cases E
      exact ⟨.inl rfl, _, resN rfl (rv_t rv_nil), rfl, H.sub0⟩
  · have E := iF c24 E
    refine off_ c24 rfl rfl rfl (off_ c24 rfl rfl rfl (v_ rfl (pF (.bool false) rfl rfl c24) (v_ rfl (mv (.bool false) rfl) (off_ rfl rfl rfl rfl (off_ rfl rfl rfl rfl (off_ rfl rfl rfl rfl (off_ rfl rfl rfl rfl (v_ rfl (pF (.bool false) rfl rfl rfl) (v_ rfl (mv (.bool false) rfl) (off_ rfl rfl rfl rfl (off_ rfl rfl rfl rfl (offN_ rfl rfl (offN_ rfl rfl (off_ rfl rfl rfl rfl (v_ rfl (pF (.bool false) rfl rfl rfl) (v_ rfl (mv (.bool false) rfl) (off_ rfl rfl rfl rfl (off_ rfl rfl rfl rfl (off_ rfl rfl rfl rfl (off_ rfl rfl rfl rfl (off_ rfl rfl rfl rfl (v_ rfl (pF (.bool false) rfl rfl rfl) (v_ rfl (sg (.bool false) rfl) (nl (wc_ret ?_)))))))))))))))))))))))))
    cases E
    exact ⟨.inl rfl, _, resN rfl (rv_t rv_nil), rfl, H.sub0⟩
end Go.Proofs.Ythfhhnlnlcbckaa.Gw
