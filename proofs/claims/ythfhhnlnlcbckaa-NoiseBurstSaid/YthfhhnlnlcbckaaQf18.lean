/- erratum/erratumlaw23.known -/
/- PRINTED by gwmain.py of this project. -/
import Derived.Test.YthfhhnlnlcbckaaQ0
import Derived.Test.YthfhhnlnlcbckaaQf19
import Derived.Test.YthfhhnlnlcbckaaQf20
import Derived.Test.YthfhhnlnlcbckaaQf21
import Derived.Test.YthfhhnlnlcbckaaQf23
namespace Go.Proofs.Ythfhhnlnlcbckaa.Gw
open Go Go.RowKit
set_option linter.unusedVariables false
set_option linter.unusedSimpArgs false
def law23_known.f (k : Nat)  : Option (Bool) := (noise_Apply.f k ([1, 2, 3]) ([(1, 9, true, true)])).bind fun x3 => (ref01_Same.f k x3.1 ([1, 9, 3])).bind fun x8 => bif x8 then ((ref01_Ints.f k x3.2 ([1])).bind fun x12 => bif x12 then ((noise_Bears.f k (4, 2, 0) ([[1, 0], [0, 2]])).bind fun x24 => bif x24 then ((noise_Bears.f k (4, 2, 0) ([[1, 1]])).bind fun x32 => some (!x32)) else (some false)) else (some false)) else (some false)
set_option maxRecDepth 100000 in
set_option maxHeartbeats 4000000 in
theorem law23_known.calls {w0 : World} {k : Nat} {r : Bool}  (E : law23_known.f k  = some r) :
    Calls Try.prog 18 #[] w0 fun e w' => e = .returned (.bool r) ∧ St no w0 w' [] := by
  have H := St.nil no w0
  unfold law23_known.f at E
  refine calls_of_wc (N := 32) (args := []) Try.func18 rfl rfl (by simp) ?_
  refine rg (v_ rfl (sg (.bool false) rfl) (nl (rg (e_ rfl (y_bsL (e := (.int .u8)) (l := [1, 2, 3]) sl_42 H rfl (by decide) ⟨rfl, rfl, rfl, rfl, rfl, rfl, trivial⟩ (by decide) (fun v1 w H => (v_ rfl (r_build (cs := [.int .i64 1, .int .u8 9, .bool true, .bool true]) bd_48 rfl) (e_ rfl (y_bsL (e := (.pr (.int .i64) (.pr (.int .u8) (.pr .bool .bool)))) (l := [(1, 9, true, true)]) sl_43 H rfl (by decide) ⟨rfl, rfl, trivial⟩ (by decide) (fun v2 w H => ?_))))))))))
  obtain ⟨x3, E4, E⟩ := bind_some E
  refine e_ rfl (y_callL en_19 rfl ((noise_Apply.calls (H.own 0 rfl (own_rd (H.get 0 rfl))) (H.own 1 rfl (own_rd (H.get 1 rfl))) E4).mono ?_))
  rintro _ w ⟨v5, v6, rfl, K⟩
  have H := H.app K
  refine ⟨_, rfl, (v_ rfl (r_move) (v_ rfl (r_extract rfl rfl) (v_ rfl (r_extract rfl rfl) (v_ rfl (sg v5 rfl) (v_ rfl (sg v6 rfl) (nl (rg (v_ rfl (mv v5 rfl) (e_ rfl (y_bsL (e := (.int .u8)) (l := [1, 9, 3]) sl_42 H rfl (by decide) ⟨rfl, rfl, rfl, rfl, rfl, rfl, trivial⟩ (by decide) (fun v7 w H => ?_)))))))))))⟩
  obtain ⟨x8, E9, E⟩ := bind_some E
  refine e_ rfl (y_callL en_20 rfl ((ref01_Same.calls (H.own 2 rfl (own_rd (H.get 2 rfl))) (H.own 4 rfl (own_rd (H.get 4 rfl))) E9).mono ?_))
  rintro _ w ⟨rfl, K⟩
  have H := H.app K
  refine ⟨_, rfl, ?_⟩
  have H : St no w0 w [.own (.int .u8) 5 v1 ([1, 2, 3]), .own (.pr (.int .i64) (.pr (.int .u8) (.pr .bool .bool))) 48 v2 ([(1, 9, true, true)]), .own (.int .u8) 5 v5 x3.1, .own (.int .i64) 3 v6 x3.2, .own (.int .u8) 5 v7 ([1, 9, 3])] := H
  refine v_ rfl (mv (.bool x8) rfl) ?_
  rcases Bool.eq_false_or_eq_true (x8) with c10 | c10
  · have E := iT c10 E
    refine on_ c10 rfl rfl (mv v6 rfl) (wl_on rfl c10 rfl (y_bsL (e := (.int .i64)) (l := [1]) sl_44 H rfl (by decide) ⟨rfl, rfl, trivial⟩ (by decide) (fun v11 w H => ?_)))
    obtain ⟨x12, E13, E⟩ := bind_some E
    refine wl_on rfl c10 rfl (y_callL en_21 rfl ((ref01_Ints.calls (H.own 3 rfl (own_rd (H.get 3 rfl))) (H.own 5 rfl (own_rd (H.get 5 rfl))) E13).mono ?_))
    rintro _ w ⟨rfl, K⟩
    have H := H.app K
    refine ⟨_, rfl, (v_ rfl (pT (.bool x12) rfl rfl c10) (v_ rfl (mv (.bool x12) rfl) ?_))⟩
    rcases Bool.eq_false_or_eq_true (x12) with c14 | c14
    · have E := iT c14 E
      refine on_ c14 rfl rfl (r_build (cs := [.int .i64 4, .int .i64 2, .int .i64 0]) bd_23 rfl) (wl_on rfl c14 rfl (y_bsL (e := (.int .i64)) (l := [1, 0]) sl_44 H rfl (by decide) ⟨rfl, rfl, rfl, rfl, trivial⟩ (by decide) (fun v15 w H => (wl_on rfl c14 rfl (y_bsL (e := (.int .i64)) (l := [0, 2]) sl_44 H rfl (by decide) ⟨rfl, rfl, rfl, rfl, trivial⟩ (by decide) (fun v16 w H => ?_))))))
      obtain ⟨p17, n18, c19, rfl⟩ := own_form (H.get 6 rfl)
      obtain ⟨p20, n21, c22, rfl⟩ := own_form (H.get 7 rfl)
      refine wl_on rfl c14 rfl (y_bsB (l := [(.slice p17 n18 c19), (.slice p20 n21 c22)]) sl_53 H rfl (by decide) ⟨rfl, rfl, rfl, rfl, rfl, rfl, trivial⟩ (by decide) (fun b23 w H => ?_))
      have H : St no w0 w [.own (.int .u8) 5 v1 ([1, 2, 3]), .own (.pr (.int .i64) (.pr (.int .u8) (.pr .bool .bool))) 48 v2 ([(1, 9, true, true)]), .own (.int .u8) 5 v5 x3.1, .own (.int .i64) 3 v6 x3.2, .own (.int .u8) 5 v7 ([1, 9, 3]), .own (.int .i64) 3 v11 ([1]), .own (.int .i64) 3 (.slice p17 n18 c19) ([1, 0]), .own (.int .i64) 3 (.slice p20 n21 c22) ([0, 2]), .blk b23 #[(.slice p17 n18 c19), (.slice p20 n21 c22)] 44] := H
      obtain ⟨x24, E25, E⟩ := bind_some E
      refine wl_on rfl c14 rfl (y_callL en_23 rfl ((noise_Bears.calls (rd_rows (ls := [[1, 0], [0, 2]]) H 8 rfl rfl rfl ⟨(H.own 6 rfl (own_rd (H.get 6 rfl))), (H.own 7 rfl (own_rd (H.get 7 rfl))), trivial⟩) E25).mono ?_))
      rintro _ w ⟨rfl, K⟩
      have H := H.app K
      refine ⟨_, rfl, (v_ rfl (pT (.bool x24) rfl rfl c14) (v_ rfl (mv (.bool x24) rfl) ?_))⟩
      rcases Bool.eq_false_or_eq_true (x24) with c26 | c26
      · have E := iT c26 E
        refine on_ c26 rfl rfl (r_build (cs := [.int .i64 4, .int .i64 2, .int .i64 0]) bd_23 rfl) (wl_on rfl c26 rfl (y_bsL (e := (.int .i64)) (l := [1, 1]) sl_44 H rfl (by decide) ⟨rfl, rfl, rfl, rfl, trivial⟩ (by decide) (fun v27 w H => ?_)))
        obtain ⟨p28, n29, c30, rfl⟩ := own_form (H.get 9 rfl)
        refine wl_on rfl c26 rfl (y_bsB (l := [(.slice p28 n29 c30)]) sl_53 H rfl (by decide) ⟨rfl, rfl, rfl, trivial⟩ (by decide) (fun b31 w H => ?_))
        obtain ⟨x32, E33, E⟩ := bind_some E
        refine wl_on rfl c26 rfl (y_callL en_23 rfl ((noise_Bears.calls (rd_rows (ls := [[1, 1]]) H 10 rfl rfl rfl ⟨(H.own 9 rfl (own_rd (H.get 9 rfl))), trivial⟩) E33).mono ?_))
        rintro _ w ⟨rfl, K⟩
        have H := H.app K
        refine ⟨_, rfl, (on_ c26 rfl rfl (r_not rfl) (v_ rfl (pT (.bool (!x32)) rfl rfl c26) (v_ rfl (sg (.bool (!x32)) rfl) (nl (wc_ret ?_)))))⟩
        cases E
        exact ⟨.inl rfl, _, resN rfl (rv_t rv_nil), rfl, H.sub0⟩
      · have E := iF c26 E
        refine off_ c26 rfl rfl rfl (off_ c26 rfl rfl rfl (off_ c26 rfl rfl rfl (off_ c26 rfl rfl rfl (off_ c26 rfl rfl rfl (v_ rfl (pF (.bool false) rfl rfl c26) (v_ rfl (sg (.bool false) rfl) (nl (wc_ret ?_))))))))
        cases E
        exact ⟨.inl rfl, _, resN rfl (rv_t rv_nil), rfl, H.sub0⟩
    · have E := iF c14 E
      refine off_ c14 rfl rfl rfl (off_ c14 rfl rfl rfl (off_ c14 rfl rfl rfl (off_ c14 rfl rfl rfl (off_ c14 rfl rfl rfl (v_ rfl (pF (.bool false) rfl rfl c14) (v_ rfl (mv (.bool false) rfl) (off_ rfl rfl rfl rfl (off_ rfl rfl rfl rfl (off_ rfl rfl rfl rfl (off_ rfl rfl rfl rfl (off_ rfl rfl rfl rfl (v_ rfl (pF (.bool false) rfl rfl rfl) (v_ rfl (sg (.bool false) rfl) (nl (wc_ret ?_)))))))))))))))
      cases E
      exact ⟨.inl rfl, _, resN rfl (rv_t rv_nil), rfl, H.sub0⟩
  · have E := iF c10 E
    refine off_ c10 rfl rfl rfl (off_ c10 rfl rfl rfl (off_ c10 rfl rfl rfl (v_ rfl (pF (.bool false) rfl rfl c10) (v_ rfl (mv (.bool false) rfl) (off_ rfl rfl rfl rfl (off_ rfl rfl rfl rfl (off_ rfl rfl rfl rfl (off_ rfl rfl rfl rfl (off_ rfl rfl rfl rfl (v_ rfl (pF (.bool false) rfl rfl rfl) (v_ rfl (mv (.bool false) rfl) (off_ rfl rfl rfl rfl (off_ rfl rfl rfl rfl (off_ rfl rfl rfl rfl (off_ rfl rfl rfl rfl (off_ rfl rfl rfl rfl (v_ rfl (pF (.bool false) rfl rfl rfl) (v_ rfl (sg (.bool false) rfl) (nl (wc_ret ?_))))))))))))))))))))
    cases E
    exact ⟨.inl rfl, _, resN rfl (rv_t rv_nil), rfl, H.sub0⟩
end Go.Proofs.Ythfhhnlnlcbckaa.Gw
