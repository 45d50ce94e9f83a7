/- What these functions compute, and that they do: law23_known, law10_Code, law18_Small, law22_Depth, ref19_Right, ref10_Right, ref21_Right, ref21_Blocks, ref10_Space, ref05_Deg, ref05_Norm, ref05_Up. -/
/- Printed by a program of this project. -/
import Derived.Test.YthfhhnlnlcbckaaQ0
import Derived.Test.YthfhhnlnlcbckaaQg0
import Derived.Test.YthfhhnlnlcbckaaQg1
namespace Go.Proofs.Ythfhhnlnlcbckaa.Gw
open Go Go.RowKit
set_option linter.unusedVariables false
set_option linter.unusedSimpArgs false
def law23_known.f (k : Nat)  : Option (Bool) := (noise_Apply.f k ([1, 2, 3]) ([(1, 9, true, true)])).bind fun x3 => (ref01_Same.f k x3.1 ([1, 9, 3])).bind fun x8 => bif x8 then ((ref01_Ints.f k x3.2 ([1])).bind fun x12 => bif x12 then ((noise_Bears.f k (4, 2, 0) ([[1, 0], [0, 2]])).bind fun x24 => bif x24 then ((noise_Bears.f k (4, 2, 0) ([[1, 1]])).bind fun x32 => some (!x32)) else (some false)) else (some false)) else (some false)
set_option maxRecDepth 100000 in
set_option maxHeartbeats 4000000 in
theorem law23_known.calls {w0 : World} {k : Nat} {r : Bool}  (E : law23_known.f k  = some r) :
    Calls Try.prog 18 #[] w0 fun e w' => e = .returned (.bool r) ∧ St no w0 w' [] := by
  have H := St.nil no w0
  unfold law23_known.f at E
  refine calls_of_wc (N := 32) (args := []) Try.func18 rfl rfl (by simp) ?_
  refine rg (v_ rfl (sg (.bool false) rfl) (nl (rg (e_ rfl (y_bsL (e := (.int .u8)) (l := [1, 2, 3]) sl_42 H rfl (by decide) ⟨rfl, rfl, rfl, rfl, rfl, rfl, trivial⟩ (by decide) (fun v1 w H => (v_ rfl (r_build (cs := [.int .i64 1, .int .u8 9, .bool true, .bool true]) bd_48 rfl) (e_ rfl (y_bsL (e := (.pr (.int .i64) (.pr (.int .u8) (.pr .bool .bool)))) (l := [(1, 9, true, true)]) sl_43 H rfl (by decide) ⟨rfl, rfl, trivial⟩ (by decide) (fun v2 w H => ?_))))))))))
  obtain ⟨x3, E4, E⟩ := bind_some E
  refine e_ rfl (y_callL en_19 rfl ((noise_Apply.calls (H.own 0 rfl (own_rd (H.get 0 rfl))) (H.own 1 rfl (own_rd (H.get 1 rfl))) E4).mono ?_))
  rintro _ w ⟨v5, v6, rfl, K⟩
  have H := H.app K
  refine ⟨_, rfl, (v_ rfl (r_move) (v_ rfl (r_extract rfl rfl) (v_ rfl (r_extract rfl rfl) (v_ rfl (sg v5 rfl) (v_ rfl (sg v6 rfl) (nl (rg (v_ rfl (mv v5 rfl) (e_ rfl (y_bsL (e := (.int .u8)) (l := [1, 9, 3]) sl_42 H rfl (by decide) ⟨rfl, rfl, rfl, rfl, rfl, rfl, trivial⟩ (by decide) (fun v7 w H => ?_)))))))))))⟩
  obtain ⟨x8, E9, E⟩ := bind_some E
  refine e_ rfl (y_callL en_20 rfl ((ref01_Same.calls (H.own 2 rfl (own_rd (H.get 2 rfl))) (H.own 4 rfl (own_rd (H.get 4 rfl))) E9).mono ?_))
  rintro _ w ⟨rfl, K⟩
  have H := H.app K
  refine ⟨_, rfl, ?_⟩
  have H : St no w0 w [.own (.int .u8) 5 v1 ([1, 2, 3]), .own (.pr (.int .i64) (.pr (.int .u8) (.pr .bool .bool))) 48 v2 ([(1, 9, true, true)]), .own (.int .u8) 5 v5 x3.1, .own (.int .i64) 3 v6 x3.2, .own (.int .u8) 5 v7 ([1, 9, 3])] := H
  refine v_ rfl (mv (.bool x8) rfl) ?_
  rcases Bool.eq_false_or_eq_true (x8) with c10 | c10
  · have E := iT c10 E
    refine on_ c10 rfl rfl (mv v6 rfl) (wl_on rfl c10 rfl (y_bsL (e := (.int .i64)) (l := [1]) sl_44 H rfl (by decide) ⟨rfl, rfl, trivial⟩ (by decide) (fun v11 w H => ?_)))
    obtain ⟨x12, E13, E⟩ := bind_some E
    refine wl_on rfl c10 rfl (y_callL en_21 rfl ((ref01_Ints.calls (H.own 3 rfl (own_rd (H.get 3 rfl))) (H.own 5 rfl (own_rd (H.get 5 rfl))) E13).mono ?_))
    rintro _ w ⟨rfl, K⟩
    have H := H.app K
    refine ⟨_, rfl, (v_ rfl (pT (.bool x12) rfl rfl c10) (v_ rfl (mv (.bool x12) rfl) ?_))⟩
    rcases Bool.eq_false_or_eq_true (x12) with c14 | c14
    · have E := iT c14 E
      refine on_ c14 rfl rfl (r_build (cs := [.int .i64 4, .int .i64 2, .int .i64 0]) bd_23 rfl) (wl_on rfl c14 rfl (y_bsL (e := (.int .i64)) (l := [1, 0]) sl_44 H rfl (by decide) ⟨rfl, rfl, rfl, rfl, trivial⟩ (by decide) (fun v15 w H => (wl_on rfl c14 rfl (y_bsL (e := (.int .i64)) (l := [0, 2]) sl_44 H rfl (by decide) ⟨rfl, rfl, rfl, rfl, trivial⟩ (by decide) (fun v16 w H => ?_))))))
      obtain ⟨p17, n18, c19, rfl⟩ := own_form (H.get 6 rfl)
      obtain ⟨p20, n21, c22, rfl⟩ := own_form (H.get 7 rfl)
      refine wl_on rfl c14 rfl (y_bsB (l := [(.slice p17 n18 c19), (.slice p20 n21 c22)]) sl_53 H rfl (by decide) ⟨rfl, rfl, rfl, rfl, rfl, rfl, trivial⟩ (by decide) (fun b23 w H => ?_))
      have H : St no w0 w [.own (.int .u8) 5 v1 ([1, 2, 3]), .own (.pr (.int .i64) (.pr (.int .u8) (.pr .bool .bool))) 48 v2 ([(1, 9, true, true)]), .own (.int .u8) 5 v5 x3.1, .own (.int .i64) 3 v6 x3.2, .own (.int .u8) 5 v7 ([1, 9, 3]), .own (.int .i64) 3 v11 ([1]), .own (.int .i64) 3 (.slice p17 n18 c19) ([1, 0]), .own (.int .i64) 3 (.slice p20 n21 c22) ([0, 2]), .blk b23 #[(.slice p17 n18 c19), (.slice p20 n21 c22)] 44] := H
      obtain ⟨x24, E25, E⟩ := bind_some E
      refine wl_on rfl c14 rfl (y_callL en_23 rfl ((noise_Bears.calls (rd_rows (ls := [[1, 0], [0, 2]]) H 8 rfl rfl rfl ⟨(H.own 6 rfl (own_rd (H.get 6 rfl))), (H.own 7 rfl (own_rd (H.get 7 rfl))), trivial⟩) E25).mono ?_))
      rintro _ w ⟨rfl, K⟩
      have H := H.app K
      refine ⟨_, rfl, (v_ rfl (pT (.bool x24) rfl rfl c14) (v_ rfl (mv (.bool x24) rfl) ?_))⟩
      rcases Bool.eq_false_or_eq_true (x24) with c26 | c26
      · have E := iT c26 E
        refine on_ c26 rfl rfl (r_build (cs := [.int .i64 4, .int .i64 2, .int .i64 0]) bd_23 rfl) (wl_on rfl c26 rfl (y_bsL (e := (.int .i64)) (l := [1, 1]) sl_44 H rfl (by decide) ⟨rfl, rfl, rfl, rfl, trivial⟩ (by decide) (fun v27 w H => ?_)))
        obtain ⟨p28, n29, c30, rfl⟩ := own_form (H.get 9 rfl)
        refine wl_on rfl c26 rfl (y_bsB (l := [(.slice p28 n29 c30)]) sl_53 H rfl (by decide) ⟨rfl, rfl, rfl, trivial⟩ (by decide) (fun b31 w H => ?_))
        obtain ⟨x32, E33, E⟩ := bind_some E
        refine wl_on rfl c26 rfl (y_callL en_23 rfl ((noise_Bears.calls (rd_rows (ls := [[1, 1]]) H 10 rfl rfl rfl ⟨(H.own 9 rfl (own_rd (H.get 9 rfl))), trivial⟩) E33).mono ?_))
        rintro _ w ⟨rfl, K⟩
        have H := H.app K
        refine ⟨_, rfl, (on_ c26 rfl rfl (r_not rfl) (v_ rfl (pT (.bool (!x32)) rfl rfl c26) (v_ rfl (sg (.bool (!x32)) rfl) (nl (wc_ret ?_)))))⟩
        cases E
        exact ⟨.inl rfl, _, tk0 rfl ⟨resN rfl (rv_t rv_nil), rfl, H.sub0⟩⟩
      · have E := iF c26 E
        refine off_ c26 rfl rfl rfl (off_ c26 rfl rfl rfl (off_ c26 rfl rfl rfl (off_ c26 rfl rfl rfl (off_ c26 rfl rfl rfl (v_ rfl (pF (.bool false) rfl rfl c26) (v_ rfl (sg (.bool false) rfl) (nl (wc_ret ?_))))))))
        cases E
        exact ⟨.inl rfl, _, tk0 rfl ⟨resN rfl (rv_t rv_nil), rfl, H.sub0⟩⟩
    · have E := iF c14 E
      refine off_ c14 rfl rfl rfl (off_ c14 rfl rfl rfl (off_ c14 rfl rfl rfl (off_ c14 rfl rfl rfl (off_ c14 rfl rfl rfl (v_ rfl (pF (.bool false) rfl rfl c14) (v_ rfl (mv (.bool false) rfl) (off_ rfl rfl rfl rfl (off_ rfl rfl rfl rfl (off_ rfl rfl rfl rfl (off_ rfl rfl rfl rfl (off_ rfl rfl rfl rfl (v_ rfl (pF (.bool false) rfl rfl rfl) (v_ rfl (sg (.bool false) rfl) (nl (wc_ret ?_)))))))))))))))
      cases E
      exact ⟨.inl rfl, _, tk0 rfl ⟨resN rfl (rv_t rv_nil), rfl, H.sub0⟩⟩
  · have E := iF c10 E
    refine off_ c10 rfl rfl rfl (off_ c10 rfl rfl rfl (off_ c10 rfl rfl rfl (v_ rfl (pF (.bool false) rfl rfl c10) (v_ rfl (mv (.bool false) rfl) (off_ rfl rfl rfl rfl (off_ rfl rfl rfl rfl (off_ rfl rfl rfl rfl (off_ rfl rfl rfl rfl (off_ rfl rfl rfl rfl (v_ rfl (pF (.bool false) rfl rfl rfl) (v_ rfl (mv (.bool false) rfl) (off_ rfl rfl rfl rfl (off_ rfl rfl rfl rfl (off_ rfl rfl rfl rfl (off_ rfl rfl rfl rfl (off_ rfl rfl rfl rfl (v_ rfl (pF (.bool false) rfl rfl rfl) (v_ rfl (sg (.bool false) rfl) (nl (wc_ret ?_))))))))))))))))))))
    cases E
    exact ⟨.inl rfl, _, tk0 rfl ⟨resN rfl (rv_t rv_nil), rfl, H.sub0⟩⟩
def law10_Code.j0 (a1 : Int) (a2 : Int) (x4 : Int) : Option ((Int × Int × Int)) := grd (decide (IntKind.i64.wrap (x4 - 1) ≠ 0)) (some ((x4, IntKind.i64.wrap (1 + (Int.tmod (IntKind.i64.wrap a1) (IntKind.i64.wrap (x4 - 1)))), Int.tmod (IntKind.i64.wrap a2) 255)))
def law10_Code.f (a0 : Int) (a1 : Int) (a2 : Int) : Option ((Int × Int × Int)) := bif decide (Int.tmod a0 32 = 31) then (law10_Code.j0 a1 a2 (IntKind.i64.wrap (30 + (IntKind.i64.wrap (Int.tmod a1 40))))) else (law10_Code.j0 a1 a2 (IntKind.i64.wrap (2 + (IntKind.i64.wrap (Int.tmod a0 21)))))
set_option maxRecDepth 100000 in
set_option maxHeartbeats 4000000 in
theorem law10_Code.calls {w0 : World} {a0 : Int} {a1 : Int} {a2 : Int} {r : (Int × Int × Int)}  (E : law10_Code.f a0 a1 a2 = some r) :
    Calls Try.prog 12 #[.int .u8 a0, .int .u8 a1, .int .u8 a2] w0 fun e w' => e = .returned (.agg #[.int .i64 r.1, .int .i64 r.2.1, .int .i64 r.2.2]) ∧ St no w0 w' [] := by
  have H := St.nil no w0
  unfold law10_Code.f at E
  refine calls_of_wc (N := 33) (args := [.int .u8 a0, .int .u8 a1, .int .u8 a2]) Try.func12 rfl rfl (by simp) ?_
  obtain ⟨k, _⟩ : ∃ k : Nat, k = 0 := ⟨0, rfl⟩
  refine rg (e_ rfl (y_allocS zr_23 H (fun b1 w H => (nl (rg (v_ rfl (mv (.int .u8 a0) rfl) (v_ rfl (r_rem rfl rfl (by decide)) (v_ rfl (r_conv rfl Try.underlying5 Try.underlying3) (v_ rfl (r_add rfl rfl) (v_ rfl (mv (.int .u8 a2) rfl) (v_ rfl (r_conv rfl Try.underlying5 Try.underlying3) (v_ rfl (r_rem rfl rfl (by decide)) (v_ rfl (r_build (cs := [.int .i64 (IntKind.i64.wrap (2 + (IntKind.i64.wrap (Int.tmod a0 21)))), .int .i64 0, .int .i64 (Int.tmod (IntKind.i64.wrap a2) 255)]) bd_23 rfl) (e_ rfl (y_allocS zr_23 H (fun b2 w H => (s_ (y_storeBA sz_23 H 1 rfl rfl rfl rfl rfl rfl (fun w H => (nl ?_))))))))))))))))))))
  refine wc_seqJ (fun t w => ∃ (k6 : Nat) (x4 : Int) (t5 : Fr), k6 ≤ k ∧ law10_Code.j0 a1 a2 x4 = some r ∧ t = upds t5 [(1, .int .u8 a1), (6, .pointer (some ⟨b1, 0, none⟩)), (7, .pointer (some ⟨b2, 0, none⟩)), (1000000, undef)] ∧ St no w0 w [.blk b1 #[.int .i64 0, .int .i64 0, .int .i64 0] 23, .blk b2 #[.int .i64 x4, .int .i64 0, .int .i64 (Int.tmod (IntKind.i64.wrap a2) 255)] 23]) ?_ ?_
  · refine rg (v_ rfl (mv (.int .u8 a0) rfl) (v_ rfl (r_rem rfl rfl (by decide)) (v_ rfl (r_eql rfl rfl) (nl ?_))))
    refine wc_cond rfl (fun c8 => ?_) (fun c8 => ?_)
    · have E := iT c8 E
      refine wc_region (v_ rfl (mv (.int .u8 a1) rfl) (v_ rfl (r_rem rfl rfl (by decide)) (v_ rfl (r_conv rfl Try.underlying5 Try.underlying3) (v_ rfl (r_add rfl rfl) (v_ rfl (r_faddr fa_23_0 rfl) (s_ (y_storeB sz_3 H 1 rfl rfl rfl rfl rfl (fun w H => (wl_nil ?_)))))))))
      exact ⟨k, _, _, Nat.le_refl _, E, upds_eq ⟨rfl, rfl, rfl, rfl, trivial⟩, H⟩
    · have E := iF c8 E
      refine wc_skip ?_
      exact ⟨k, _, _, Nat.le_refl _, E, upds_eq ⟨rfl, rfl, rfl, rfl, trivial⟩, H⟩
  rintro t w ⟨k6, x4, t5, hk7, E, rfl, H⟩
  unfold law10_Code.j0 at E
  refine rg (v_ rfl (mv (.int .u8 a1) rfl) (v_ rfl (r_conv rfl Try.underlying5 Try.underlying3) (v_ rfl (r_faddr fa_23_0 rfl) (v_ rfl (r_load sc_3 rfl (blk_cell (H.get 1 rfl) rfl)) (v_ rfl (r_sub rfl rfl) ?_)))))
  obtain ⟨g9, E⟩ := grd_some E
  refine v_ rfl (r_rem rfl rfl g9) (v_ rfl (r_add rfl rfl) (v_ rfl (r_faddr fa_23_1 rfl) (s_ (y_storeB sz_3 H 1 rfl rfl rfl rfl rfl (fun w H => (nl (rg (v_ rfl (r_loadB (l := [.int .i64 x4, .int .i64 (IntKind.i64.wrap (1 + (Int.tmod (IntKind.i64.wrap a1) (IntKind.i64.wrap (x4 - 1))))), .int .i64 (Int.tmod (IntKind.i64.wrap a2) 255)]) ag_23 (H.get 1 rfl) rfl rfl rfl) (s_ (y_storeBA sz_23 H 0 rfl rfl rfl rfl rfl rfl (fun w H => (nl (wc_ret ?_)))))))))))))
  cases E
  exact ⟨.inl rfl, _, tk0 rfl ⟨resN rfl (rv_c rfl ag_23 (blk_range (n := 3) (H.get 0 rfl) rfl) rfl rv_nil), rfl, H.sub0⟩⟩
def law18_Small.f (a0 : Int) (a1 : Int) (a2 : Int) : Option ((Int × Int × Int)) := (law10_Code.f (Int.tmod a0 31) a1 a2).bind fun x2 => some (x2.1, x2.2.1, x2.2.2)
set_option maxRecDepth 100000 in
set_option maxHeartbeats 4000000 in
theorem law18_Small.calls {w0 : World} {a0 : Int} {a1 : Int} {a2 : Int} {r : (Int × Int × Int)}  (E : law18_Small.f a0 a1 a2 = some r) :
    Calls Try.prog 22 #[.int .u8 a0, .int .u8 a1, .int .u8 a2] w0 fun e w' => e = .returned (.agg #[.int .i64 r.1, .int .i64 r.2.1, .int .i64 r.2.2]) ∧ St no w0 w' [] := by
  have H := St.nil no w0
  unfold law18_Small.f at E
  refine calls_of_wc (N := 12) (args := [.int .u8 a0, .int .u8 a1, .int .u8 a2]) Try.func22 rfl rfl (by simp) ?_
  refine rg (e_ rfl (y_allocS zr_23 H (fun b1 w H => (nl (rg (v_ rfl (mv (.int .u8 a0) rfl) (v_ rfl (r_rem rfl rfl (by decide)) (v_ rfl (mv (.int .u8 a1) rfl) (v_ rfl (mv (.int .u8 a2) rfl) ?_)))))))))
  obtain ⟨x2, E3, E⟩ := bind_some E
  refine e_ rfl (y_callL en_12 rfl ((law10_Code.calls E3).mono ?_))
  rintro _ w ⟨rfl, K⟩
  have H := H.app K
  refine ⟨_, rfl, (s_ (y_storeBA sz_23 H 0 rfl rfl rfl rfl rfl rfl (fun w H => (nl (wc_ret ?_)))))⟩
  cases E
  exact ⟨.inl rfl, _, tk0 rfl ⟨resN rfl (rv_c rfl ag_23 (blk_range (n := 3) (H.get 0 rfl) rfl) rfl rv_nil), rfl, H.sub0⟩⟩
def law22_Depth.f (a0 : Int) : Option (Int) := some (IntKind.i64.wrap (1 + (IntKind.i64.wrap (Int.tmod a0 5))))
set_option maxRecDepth 100000 in
set_option maxHeartbeats 4000000 in
theorem law22_Depth.calls {w0 : World} {a0 : Int} {r : Int}  (E : law22_Depth.f a0 = some r) :
    Calls Try.prog 25 #[.int .u8 a0] w0 fun e w' => e = .returned (.int .i64 r) ∧ St no w0 w' [] := by
  have H := St.nil no w0
  unfold law22_Depth.f at E
  refine calls_of_wc (N := 7) (args := [.int .u8 a0]) Try.func25 rfl rfl (by simp) ?_
  refine rg (v_ rfl (sg (.int .i64 0) rfl) (nl (rg (v_ rfl (mv (.int .u8 a0) rfl) (v_ rfl (r_rem rfl rfl (by decide)) (v_ rfl (r_conv rfl Try.underlying5 Try.underlying3) (v_ rfl (r_add rfl rfl) (v_ rfl (sg (.int .i64 (IntKind.i64.wrap (1 + (IntKind.i64.wrap (Int.tmod a0 5))))) rfl) (nl (wc_ret ?_))))))))))
  cases E
  exact ⟨.inl rfl, _, tk0 rfl ⟨resN rfl (rv_t rv_nil), rfl, H.sub0⟩⟩
def ref19_Right.f (a0 : Int × Int) : Option (Int) := bif decide (a0.1 < 0) then (some 11) else (bif decide (3 < a0.1) then (some 11) else (bif decide (a0.2 < 0) then (some 11) else (bif decide (3 < a0.2) then (some 11) else (some 0))))
set_option maxRecDepth 100000 in
set_option maxHeartbeats 4000000 in
theorem ref19_Right.calls {w0 : World} {a0 : Int × Int} {r : Int}  (E : ref19_Right.f a0 = some r) :
    Calls Try.prog 31 #[.agg #[.int .i64 a0.1, .int .i64 a0.2]] w0 fun e w' => e = .returned (.int .i64 r) ∧ St no w0 w' [] := by
  have H := St.nil no w0
  unfold ref19_Right.f at E
  refine calls_of_wc (N := 21) (args := [.agg #[.int .i64 a0.1, .int .i64 a0.2]]) Try.func31 rfl rfl (by simp) ?_
  refine rg (e_ rfl (y_boxS (cs := #[.int .i64 a0.1, .int .i64 a0.2]) H rfl (fun b1 w H => (v_ rfl (sg (.int .i64 0) rfl) (nl (wc_seq (rg (v_ rfl (r_faddr fa_25_0 rfl) (v_ rfl (r_load sc_3 rfl (blk_cell (H.get 0 rfl) rfl)) (v_ rfl (r_lss rfl rfl) (v_ rfl (mv (.bool (decide (a0.1 < 0))) rfl) ?_)))))))))))
  rcases Bool.eq_false_or_eq_true (decide (a0.1 < 0)) with c2 | c2
  · have E := iT c2 E
    refine off_ c2 rfl rfl rfl (off_ c2 rfl rfl rfl (off_ c2 rfl rfl rfl (v_ rfl (pT (.bool true) rfl rfl c2) (v_ rfl (mv (.bool true) rfl) (off_ rfl rfl rfl rfl (off_ rfl rfl rfl rfl (off_ rfl rfl rfl rfl (v_ rfl (pT (.bool true) rfl rfl rfl) (v_ rfl (mv (.bool true) rfl) (off_ rfl rfl rfl rfl (off_ rfl rfl rfl rfl (off_ rfl rfl rfl rfl (v_ rfl (pT (.bool true) rfl rfl rfl) (nl (wc_condT rfl (rg (v_ rfl (sg (.int .i64 11) rfl) (nl (wc_ret ?_)))))))))))))))))))
    cases E
    exact (r_thn ⟨.inl rfl, _, tk0 rfl ⟨resN rfl (rv_t rv_nil), rfl, H.sub0⟩⟩)
  · have E := iF c2 E
    refine on_ c2 rfl rfl (r_faddr fa_25_0 rfl) (on_ c2 rfl rfl (r_load sc_3 rfl (blk_cell (H.get 0 rfl) rfl)) (on_ c2 rfl rfl (r_gtr rfl rfl) (v_ rfl (pF (.bool (decide (3 < a0.1))) rfl rfl c2) (v_ rfl (mv (.bool (decide (3 < a0.1))) rfl) ?_))))
    rcases Bool.eq_false_or_eq_true (decide (3 < a0.1)) with c3 | c3
    · have E := iT c3 E
      refine off_ c3 rfl rfl rfl (off_ c3 rfl rfl rfl (off_ c3 rfl rfl rfl (v_ rfl (pT (.bool true) rfl rfl c3) (v_ rfl (mv (.bool true) rfl) (off_ rfl rfl rfl rfl (off_ rfl rfl rfl rfl (off_ rfl rfl rfl rfl (v_ rfl (pT (.bool true) rfl rfl rfl) (nl (wc_condT rfl (rg (v_ rfl (sg (.int .i64 11) rfl) (nl (wc_ret ?_))))))))))))))
      cases E
      exact (r_thn ⟨.inl rfl, _, tk0 rfl ⟨resN rfl (rv_t rv_nil), rfl, H.sub0⟩⟩)
    · have E := iF c3 E
      refine on_ c3 rfl rfl (r_faddr fa_25_1 rfl) (on_ c3 rfl rfl (r_load sc_3 rfl (blk_cell (H.get 0 rfl) rfl)) (on_ c3 rfl rfl (r_lss rfl rfl) (v_ rfl (pF (.bool (decide (a0.2 < 0))) rfl rfl c3) (v_ rfl (mv (.bool (decide (a0.2 < 0))) rfl) ?_))))
      rcases Bool.eq_false_or_eq_true (decide (a0.2 < 0)) with c4 | c4
      · have E := iT c4 E
        refine off_ c4 rfl rfl rfl (off_ c4 rfl rfl rfl (off_ c4 rfl rfl rfl (v_ rfl (pT (.bool true) rfl rfl c4) (nl (wc_condT rfl (rg (v_ rfl (sg (.int .i64 11) rfl) (nl (wc_ret ?_)))))))))
        cases E
        exact (r_thn ⟨.inl rfl, _, tk0 rfl ⟨resN rfl (rv_t rv_nil), rfl, H.sub0⟩⟩)
      · have E := iF c4 E
        refine on_ c4 rfl rfl (r_faddr fa_25_1 rfl) (on_ c4 rfl rfl (r_load sc_3 rfl (blk_cell (H.get 0 rfl) rfl)) (on_ c4 rfl rfl (r_gtr rfl rfl) (v_ rfl (pF (.bool (decide (3 < a0.2))) rfl rfl c4) (nl ?_))))
        refine wc_cond rfl (fun c5 => ?_) (fun c5 => ?_)
        · have E := iT c5 E
          refine rg (v_ rfl (sg (.int .i64 11) rfl) (nl (wc_ret ?_)))
          cases E
          exact (r_thn ⟨.inl rfl, _, tk0 rfl ⟨resN rfl (rv_t rv_nil), rfl, H.sub0⟩⟩)
        · have E := iF c5 E
          refine wc_skip (n_thn (rg (v_ rfl (sg (.int .i64 0) rfl) (nl (wc_ret ?_)))))
          cases E
          exact ⟨.inl rfl, _, tk0 rfl ⟨resN rfl (rv_t rv_nil), rfl, H.sub0⟩⟩
def ref10_Right.f (a0 : Int × Int × Int) : Option (Int) := bif decide (a0.2.1 < 1) then (some 10) else (bif decide (a0.1 ≤ a0.2.1) then (some 10) else (bif decide (255 < a0.1) then (some 10) else (bif decide (a0.2.2 < 0) then (some 10) else (bif decide (254 < a0.2.2) then (some 10) else (some 0)))))
set_option maxRecDepth 100000 in
set_option maxHeartbeats 4000000 in
theorem ref10_Right.calls {w0 : World} {a0 : Int × Int × Int} {r : Int}  (E : ref10_Right.f a0 = some r) :
    Calls Try.prog 54 #[.agg #[.int .i64 a0.1, .int .i64 a0.2.1, .int .i64 a0.2.2]] w0 fun e w' => e = .returned (.int .i64 r) ∧ St no w0 w' [] := by
  have H := St.nil no w0
  unfold ref10_Right.f at E
  refine calls_of_wc (N := 28) (args := [.agg #[.int .i64 a0.1, .int .i64 a0.2.1, .int .i64 a0.2.2]]) Try.func54 rfl rfl (by simp) ?_
  refine rg (e_ rfl (y_boxS (cs := #[.int .i64 a0.1, .int .i64 a0.2.1, .int .i64 a0.2.2]) H rfl (fun b1 w H => (v_ rfl (sg (.int .i64 0) rfl) (nl (wc_seq (rg (v_ rfl (r_faddr fa_23_1 rfl) (v_ rfl (r_load sc_3 rfl (blk_cell (H.get 0 rfl) rfl)) (v_ rfl (r_lss rfl rfl) (v_ rfl (mv (.bool (decide (a0.2.1 < 1))) rfl) ?_)))))))))))
  rcases Bool.eq_false_or_eq_true (decide (a0.2.1 < 1)) with c2 | c2
  · have E := iT c2 E
    refine off_ c2 rfl rfl rfl (off_ c2 rfl rfl rfl (off_ c2 rfl rfl rfl (off_ c2 rfl rfl rfl (off_ c2 rfl rfl rfl (v_ rfl (pT (.bool true) rfl rfl c2) (v_ rfl (mv (.bool true) rfl) (off_ rfl rfl rfl rfl (off_ rfl rfl rfl rfl (off_ rfl rfl rfl rfl (v_ rfl (pT (.bool true) rfl rfl rfl) (v_ rfl (mv (.bool true) rfl) (off_ rfl rfl rfl rfl (off_ rfl rfl rfl rfl (off_ rfl rfl rfl rfl (v_ rfl (pT (.bool true) rfl rfl rfl) (v_ rfl (mv (.bool true) rfl) (off_ rfl rfl rfl rfl (off_ rfl rfl rfl rfl (off_ rfl rfl rfl rfl (v_ rfl (pT (.bool true) rfl rfl rfl) (nl (wc_condT rfl (rg (v_ rfl (sg (.int .i64 10) rfl) (nl (wc_ret ?_))))))))))))))))))))))))))
    cases E
    exact (r_thn ⟨.inl rfl, _, tk0 rfl ⟨resN rfl (rv_t rv_nil), rfl, H.sub0⟩⟩)
  · have E := iF c2 E
    refine on_ c2 rfl rfl (r_faddr fa_23_0 rfl) (on_ c2 rfl rfl (r_load sc_3 rfl (blk_cell (H.get 0 rfl) rfl)) (on_ c2 rfl rfl (r_faddr fa_23_1 rfl) (on_ c2 rfl rfl (r_load sc_3 rfl (blk_cell (H.get 0 rfl) rfl)) (on_ c2 rfl rfl (r_leq rfl rfl) (v_ rfl (pF (.bool (decide (a0.1 ≤ a0.2.1))) rfl rfl c2) (v_ rfl (mv (.bool (decide (a0.1 ≤ a0.2.1))) rfl) ?_))))))
    rcases Bool.eq_false_or_eq_true (decide (a0.1 ≤ a0.2.1)) with c3 | c3
    · have E := iT c3 E
      refine off_ c3 rfl rfl rfl (off_ c3 rfl rfl rfl (off_ c3 rfl rfl rfl (v_ rfl (pT (.bool true) rfl rfl c3) (v_ rfl (mv (.bool true) rfl) (off_ rfl rfl rfl rfl (off_ rfl rfl rfl rfl (off_ rfl rfl rfl rfl (v_ rfl (pT (.bool true) rfl rfl rfl) (v_ rfl (mv (.bool true) rfl) (off_ rfl rfl rfl rfl (off_ rfl rfl rfl rfl (off_ rfl rfl rfl rfl (v_ rfl (pT (.bool true) rfl rfl rfl) (nl (wc_condT rfl (rg (v_ rfl (sg (.int .i64 10) rfl) (nl (wc_ret ?_)))))))))))))))))))
      cases E
      exact (r_thn ⟨.inl rfl, _, tk0 rfl ⟨resN rfl (rv_t rv_nil), rfl, H.sub0⟩⟩)
    · have E := iF c3 E
      refine on_ c3 rfl rfl (r_faddr fa_23_0 rfl) (on_ c3 rfl rfl (r_load sc_3 rfl (blk_cell (H.get 0 rfl) rfl)) (on_ c3 rfl rfl (r_gtr rfl rfl) (v_ rfl (pF (.bool (decide (255 < a0.1))) rfl rfl c3) (v_ rfl (mv (.bool (decide (255 < a0.1))) rfl) ?_))))
      rcases Bool.eq_false_or_eq_true (decide (255 < a0.1)) with c4 | c4
      · have E := iT c4 E
        refine off_ c4 rfl rfl rfl (off_ c4 rfl rfl rfl (off_ c4 rfl rfl rfl (v_ rfl (pT (.bool true) rfl rfl c4) (v_ rfl (mv (.bool true) rfl) (off_ rfl rfl rfl rfl (off_ rfl rfl rfl rfl (off_ rfl rfl rfl rfl (v_ rfl (pT (.bool true) rfl rfl rfl) (nl (wc_condT rfl (rg (v_ rfl (sg (.int .i64 10) rfl) (nl (wc_ret ?_))))))))))))))
        cases E
        exact (r_thn ⟨.inl rfl, _, tk0 rfl ⟨resN rfl (rv_t rv_nil), rfl, H.sub0⟩⟩)
      · have E := iF c4 E
        refine on_ c4 rfl rfl (r_faddr fa_23_2 rfl) (on_ c4 rfl rfl (r_load sc_3 rfl (blk_cell (H.get 0 rfl) rfl)) (on_ c4 rfl rfl (r_lss rfl rfl) (v_ rfl (pF (.bool (decide (a0.2.2 < 0))) rfl rfl c4) (v_ rfl (mv (.bool (decide (a0.2.2 < 0))) rfl) ?_))))
        rcases Bool.eq_false_or_eq_true (decide (a0.2.2 < 0)) with c5 | c5
        · have E := iT c5 E
          refine off_ c5 rfl rfl rfl (off_ c5 rfl rfl rfl (off_ c5 rfl rfl rfl (v_ rfl (pT (.bool true) rfl rfl c5) (nl (wc_condT rfl (rg (v_ rfl (sg (.int .i64 10) rfl) (nl (wc_ret ?_)))))))))
          cases E
          exact (r_thn ⟨.inl rfl, _, tk0 rfl ⟨resN rfl (rv_t rv_nil), rfl, H.sub0⟩⟩)
        · have E := iF c5 E
          refine on_ c5 rfl rfl (r_faddr fa_23_2 rfl) (on_ c5 rfl rfl (r_load sc_3 rfl (blk_cell (H.get 0 rfl) rfl)) (on_ c5 rfl rfl (r_gtr rfl rfl) (v_ rfl (pF (.bool (decide (254 < a0.2.2))) rfl rfl c5) (nl ?_))))
          refine wc_cond rfl (fun c6 => ?_) (fun c6 => ?_)
          · have E := iT c6 E
            refine rg (v_ rfl (sg (.int .i64 10) rfl) (nl (wc_ret ?_)))
            cases E
            exact (r_thn ⟨.inl rfl, _, tk0 rfl ⟨resN rfl (rv_t rv_nil), rfl, H.sub0⟩⟩)
          · have E := iF c6 E
            refine wc_skip (n_thn (rg (v_ rfl (sg (.int .i64 0) rfl) (nl (wc_ret ?_)))))
            cases E
            exact ⟨.inl rfl, _, tk0 rfl ⟨resN rfl (rv_t rv_nil), rfl, H.sub0⟩⟩
def ref21_Right.f (a0 : Int × Int × Int) (a1 : Int) : Option (Bool) := (ref10_Right.f (a0.1, a0.2.1, a0.2.2)).bind fun x2 => bif decide (x2 = 0) then (bif decide (1 ≤ a1) then (some (decide (a1 ≤ 255))) else (some false)) else (some false)
set_option maxRecDepth 100000 in
set_option maxHeartbeats 4000000 in
theorem ref21_Right.calls {w0 : World} {a0 : Int × Int × Int} {a1 : Int} {r : Bool}  (E : ref21_Right.f a0 a1 = some r) :
    Calls Try.prog 47 #[.agg #[.int .i64 a0.1, .int .i64 a0.2.1, .int .i64 a0.2.2], .int .i64 a1] w0 fun e w' => e = .returned (.bool r) ∧ St no w0 w' [] := by
  have H := St.nil no w0
  unfold ref21_Right.f at E
  refine calls_of_wc (N := 16) (args := [.agg #[.int .i64 a0.1, .int .i64 a0.2.1, .int .i64 a0.2.2], .int .i64 a1]) Try.func47 rfl rfl (by simp) ?_
  refine rg (e_ rfl (y_boxS (cs := #[.int .i64 a0.1, .int .i64 a0.2.1, .int .i64 a0.2.2]) H rfl (fun b1 w H => (v_ rfl (sg (.bool false) rfl) (nl (rg (v_ rfl (r_loadB (l := [.int .i64 a0.1, .int .i64 a0.2.1, .int .i64 a0.2.2]) ag_23 (H.get 0 rfl) rfl rfl rfl) ?_)))))))
  obtain ⟨x2, E3, E⟩ := bind_some E
  refine e_ rfl (y_callL en_54 rfl ((ref10_Right.calls E3).mono ?_))
  rintro _ w ⟨rfl, K⟩
  have H := H.app K
  refine ⟨_, rfl, (v_ rfl (r_eql rfl rfl) (v_ rfl (mv (.bool (decide (x2 = 0))) rfl) ?_))⟩
  rcases Bool.eq_false_or_eq_true (decide (x2 = 0)) with c4 | c4
  · have E := iT c4 E
    refine on_ c4 rfl rfl (mv (.int .i64 a1) rfl) (on_ c4 rfl rfl (r_geq rfl rfl) (v_ rfl (pT (.bool (decide (1 ≤ a1))) rfl rfl c4) (v_ rfl (mv (.bool (decide (1 ≤ a1))) rfl) ?_)))
    rcases Bool.eq_false_or_eq_true (decide (1 ≤ a1)) with c5 | c5
    · have E := iT c5 E
      refine on_ c5 rfl rfl (mv (.int .i64 a1) rfl) (on_ c5 rfl rfl (r_leq rfl rfl) (v_ rfl (pT (.bool (decide (a1 ≤ 255))) rfl rfl c5) (v_ rfl (sg (.bool (decide (a1 ≤ 255))) rfl) (nl (wc_ret ?_)))))
      cases E
      exact ⟨.inl rfl, _, tk0 rfl ⟨resN rfl (rv_t rv_nil), rfl, H.sub0⟩⟩
    · have E := iF c5 E
      refine off_ c5 rfl rfl rfl (off_ c5 rfl rfl rfl (v_ rfl (pF (.bool false) rfl rfl c5) (v_ rfl (sg (.bool false) rfl) (nl (wc_ret ?_)))))
      cases E
      exact ⟨.inl rfl, _, tk0 rfl ⟨resN rfl (rv_t rv_nil), rfl, H.sub0⟩⟩
  · have E := iF c4 E
    refine off_ c4 rfl rfl rfl (off_ c4 rfl rfl rfl (v_ rfl (pF (.bool false) rfl rfl c4) (v_ rfl (mv (.bool false) rfl) (off_ rfl rfl rfl rfl (off_ rfl rfl rfl rfl (v_ rfl (pF (.bool false) rfl rfl rfl) (v_ rfl (sg (.bool false) rfl) (nl (wc_ret ?_)))))))))
    cases E
    exact ⟨.inl rfl, _, tk0 rfl ⟨resN rfl (rv_t rv_nil), rfl, H.sub0⟩⟩
def ref21_Blocks.j0 (l1r : (Int × Int × Int) → Int → List Int → List (List (Int)) → Int → List (Int) → Int → Option (List (List Int) × Int)) (k : Nat) (a0 : Int × Int × Int) (a1 : Int) (a2 : List Int) (l110 : List (List (Int))) (x111 : Int) : Option (List (List Int) × Int) := grd (decide ((0 : Int) ≤ a0.2.1 ∧ a0.2.1 ≤ a0.2.1 ∧ a0.2.1 ≤ 140737488355328)) (l1r a0 a1 a2 l110 x111 (List.replicate a0.2.1.toNat (0 : Int)) 0)
mutual
def ref21_Blocks.l0 : Nat → (Int × Int × Int) → Int → List Int → List (List (Int)) → Int → Option (List (List Int) × Int)
  | 0, _, _, _, _, _ => none
  | k + 1, a0, a1, a2, l110, x111 => bif decide (x111 < (a2.length : Int)) then (ref21_Blocks.j0 (ref21_Blocks.l1 k) k a0 a1 a2 l110 x111) else (grd (decide (a1 ≠ 0)) (bif !decide (Int.tmod (l110.length : Int) a1 = 0) then (ref21_Blocks.j0 (ref21_Blocks.l1 k) k a0 a1 a2 l110 x111) else (some (l110, 0))))
def ref21_Blocks.l1 : Nat → (Int × Int × Int) → Int → List Int → List (List (Int)) → Int → List (Int) → Int → Option (List (List Int) × Int)
  | 0, _, _, _, _, _, _, _ => none
  | k + 1, a0, a1, a2, l110, x111, l186, x187 => bif decide (x187 < a0.2.1) then (bif decide (IntKind.i64.wrap (x111 + x187) < (a2.length : Int)) then (grd (decide ((0 : Int) ≤ IntKind.i64.wrap (x111 + x187) ∧ IntKind.i64.wrap (x111 + x187) < (a2.length : Int))) (grd (decide ((0 : Int) ≤ x187 ∧ x187 < (l186.length : Int))) (ref21_Blocks.l1 k a0 a1 a2 l110 x111 (l186.set x187.toNat (at_ 0 a2 (IntKind.i64.wrap (x111 + x187)))) (IntKind.i64.wrap (x187 + 1))))) else (grd (decide ((l110.length + 1) * 24 ≤ 140737488355328)) (ref21_Blocks.l0 k a0 a1 a2 (l110 ++ [l186]) (IntKind.i64.wrap (x111 + a0.2.1))))) else (grd (decide ((l110.length + 1) * 24 ≤ 140737488355328)) (ref21_Blocks.l0 k a0 a1 a2 (l110 ++ [l186]) (IntKind.i64.wrap (x111 + a0.2.1))))
end
def ref21_Blocks.f (k : Nat) (a0 : Int × Int × Int) (a1 : Int) (a2 : List Int) : Option (List (List Int) × Int) := (ref21_Right.f (a0.1, a0.2.1, a0.2.2) a1).bind fun x5 => bif !x5 then (some (([] : List (List (Int))), 10)) else (ref21_Blocks.l0 k a0 a1 a2 ([] : List (List (Int))) 0)
set_option maxRecDepth 100000 in
set_option maxHeartbeats 4000000 in
theorem ref21_Blocks.calls {w0 : World} {k : Nat} {a0 : Int × Int × Int} {a1 : Int} {a2 : List Int} {v2_ : Value} {r : List (List Int) × Int} (h2 : Rd (.of (.int .u8)) w0 (Ol no w0) v2_ a2) (E : ref21_Blocks.f k a0 a1 a2 = some r) :
    Calls Try.prog 48 #[.agg #[.int .i64 a0.1, .int .i64 a0.2.1, .int .i64 a0.2.2], .int .i64 a1, v2_] w0 fun e w' => ∃ (u0 : Value) (us0 : List Sv), e = .returned (.tuple #[u0, .int .i64 r.2]) ∧ St no w0 w' [.rows (.int .u8) 5 42 u0 us0 r.1] := by
  have H := St.nil no w0
  unfold ref21_Blocks.f at E
  refine calls_of_wc (N := 62) (args := [.agg #[.int .i64 a0.1, .int .i64 a0.2.1, .int .i64 a0.2.2], .int .i64 a1, v2_]) Try.func48 rfl rfl (by simp) ?_
  refine rg (e_ rfl (y_boxS (cs := #[.int .i64 a0.1, .int .i64 a0.2.1, .int .i64 a0.2.2]) H rfl (fun b1 w H => (v_ rfl (sg (.slice none 0 0) rfl) (v_ rfl (sg (.int .i64 0) rfl) (nl (wc_seq (rg (v_ rfl (r_loadB (l := [.int .i64 a0.1, .int .i64 a0.2.1, .int .i64 a0.2.2]) ag_23 (H.get 0 rfl) rfl rfl rfl) (v_ rfl (mv (.int .i64 a1) rfl) ?_))))))))))
  obtain ⟨x5, E6, E⟩ := bind_some E
  refine e_ rfl (y_callL en_47 rfl ((ref21_Right.calls E6).mono ?_))
  rintro _ w ⟨rfl, K⟩
  have H := H.app K
  refine ⟨_, rfl, (v_ rfl (r_not rfl) (nl ?_))⟩
  refine wc_cond rfl (fun c7 => ?_) (fun c7 => ?_)
  · have E := iT c7 E
    refine rg (v_ rfl (sg (.slice none 0 0) rfl) (v_ rfl (sg (.int .i64 10) rfl) (nl (wc_ret ?_))))
    have H := H.nilRows (.int .u8) 5 42
    cases E
    exact (r_thn ⟨.inl rfl, _, tk0 rfl ⟨resN rfl (rv_t (rv_t rv_nil)), _, _, rfl, H.sub1 1 rfl⟩⟩)
  · have E := iF c7 E
    refine wc_skip (n_thn (rg (v_ rfl (sg (.slice none 0 0) rfl) (nl (wc_seq (rg (v_ rfl (sg (.int .i64 0) rfl) (nl (wc_block ?_)))))))))
    have H := H.nilRows (.int .u8) 5 42
    refine wc_loop (fun kk t w => ∃ (l110 : List (List (Int))) (x111 : Int) (v108 : Value) (us109 : List Sv) (t164 : Fr), kk ≤ k ∧ ref21_Blocks.l0 kk a0 a1 a2 l110 x111 = some r ∧ t = upds t164 [(1, .int .i64 a1), (2, v2_), (3, .pointer (some ⟨b1, 0, none⟩)), (6, .slice none 0 0), (7, .int .i64 0), (8, v108), (9, .int .i64 x111), (1000000, undef)] ∧ St no w0 w [.blk b1 #[.int .i64 a0.1, .int .i64 a0.2.1, .int .i64 a0.2.2] 23, .rows (.int .u8) 5 42 v108 us109 l110]) k ?_ ?_
    · exact ⟨_, _, _, _, _, Nat.le_refl _, E, upds_eq ⟨rfl, rfl, rfl, rfl, rfl, rfl, rfl, rfl, trivial⟩, H⟩
    rintro kk t w ⟨l110, x111, v108, us109, t164, hk163, E, rfl, H⟩
    obtain ⟨k162, rfl⟩ | rfl : (∃ k', kk = k' + 1) ∨ kk = 0 := by cases kk; exact .inr rfl; exact .inl ⟨_, rfl⟩
    rotate_left
    · cases E
    rw [ref21_Blocks.l0] at E
    refine wc_seqJ (fun t w => ∃ (k169 : Nat) (t168 : Fr), k169 ≤ k162 ∧ ref21_Blocks.j0 (ref21_Blocks.l1 k169) k169 a0 a1 a2 l110 x111 = some r ∧ t = upds t168 [(1, .int .i64 a1), (2, v2_), (3, .pointer (some ⟨b1, 0, none⟩)), (6, .slice none 0 0), (7, .int .i64 0), (8, v108), (9, .int .i64 x111), (1000000, undef)] ∧ St no w0 w [.blk b1 #[.int .i64 a0.1, .int .i64 a0.2.1, .int .i64 a0.2.2] 23, .rows (.int .u8) 5 42 v108 us109 l110]) ?_ ?_
    · refine rg (v_ rfl (mv (.int .i64 x111) rfl) (v_ rfl (mv v2_ rfl) (v_ rfl (r_lenR ul_42 (H.rd h2) rfl) (v_ rfl (r_lss rfl rfl) (v_ rfl (mv (.bool (decide (x111 < (a2.length : Int)))) rfl) ?_)))))
      rcases Bool.eq_false_or_eq_true (decide (x111 < (a2.length : Int))) with c171 | c171
      · have E := iT c171 E
        refine off_ c171 rfl rfl rfl (off_ c171 rfl rfl rfl (off_ c171 rfl rfl rfl (off_ c171 rfl rfl rfl (off_ c171 rfl rfl rfl (v_ rfl (pT (.bool true) rfl rfl c171) (nl (wc_condT rfl (wc_skip ?_))))))))
        exact ⟨k162, _, Nat.le_refl _, E, upds_eq ⟨rfl, rfl, rfl, rfl, rfl, rfl, rfl, rfl, trivial⟩, H⟩
      · have E := iF c171 E
        refine on_ c171 rfl rfl (mv v108 rfl) (on_ c171 rfl rfl (r_lenR ul_92 (rows_rd (H.get 1 rfl)) rfl) (on_ c171 rfl rfl (mv (.int .i64 a1) rfl) ?_))
        obtain ⟨g172, E⟩ := grd_some E
        refine on_ c171 rfl rfl (r_rem rfl rfl g172) (on_ c171 rfl rfl (r_neq rfl rfl) (v_ rfl (pF (.bool (!decide (Int.tmod (l110.length : Int) a1 = 0))) rfl rfl c171) (nl ?_)))
        refine wc_cond rfl (fun c173 => ?_) (fun c173 => ?_)
        · have E := iT c173 E
          refine wc_skip ?_
          exact ⟨k162, _, Nat.le_refl _, E, upds_eq ⟨rfl, rfl, rfl, rfl, rfl, rfl, rfl, rfl, trivial⟩, H⟩
        · have E := iF c173 E
          refine wc_exit (x_thn (x_thn (x_bk (n_thn (rg (v_ rfl (mv v108 rfl) (v_ rfl (sg v108 rfl) (v_ rfl (sg (.int .i64 0) rfl) (nl (wc_ret ?_))))))))))
          cases E
          exact ⟨.inl rfl, _, tk0 rfl ⟨resN rfl (rv_t (rv_t rv_nil)), _, _, rfl, H.sub1 1 rfl⟩⟩
    rintro t w ⟨k169, t168, hk170, E, rfl, H⟩
    unfold ref21_Blocks.j0 at E
    refine wc_seq (wc_block (rg (v_ rfl (r_faddr fa_23_1 rfl) (v_ rfl (r_load sc_3 rfl (blk_cell (H.get 0 rfl) rfl)) ?_))))
    obtain ⟨⟨g175, g176, g177⟩, E⟩ := grd_some E
    refine e_ rfl (y_make (e := (.int .u8)) (z0 := 0) sl_42 rfl H rfl rfl g175 g176 (by omega) (by omega) (fun v174 w H => (v_ rfl (sg v174 rfl) (nl (wc_seq (rg (v_ rfl (sg (.int .i64 0) rfl) (nl (wc_block ?_)))))))))
    refine wc_loop (fun kk t w => ∃ (l186 : List (Int)) (x187 : Int) (t198 : Fr), kk ≤ k169 ∧ ref21_Blocks.l1 kk a0 a1 a2 l110 x111 l186 x187 = some r ∧ t = upds t198 [(1, .int .i64 a1), (2, v2_), (3, .pointer (some ⟨b1, 0, none⟩)), (6, .slice none 0 0), (7, .int .i64 0), (8, v108), (9, .int .i64 x111), (10, v174), (11, .int .i64 x187), (1000000, undef)] ∧ St no w0 w [.blk b1 #[.int .i64 a0.1, .int .i64 a0.2.1, .int .i64 a0.2.2] 23, .rows (.int .u8) 5 42 v108 us109 l110, .own (.int .u8) 5 v174 l186]) k169 ?_ ?_
    · exact ⟨_, _, _, Nat.le_refl _, E, upds_eq ⟨rfl, rfl, rfl, rfl, rfl, rfl, rfl, rfl, rfl, rfl, trivial⟩, H⟩
    rintro kk t w ⟨l186, x187, t198, hk197, E, rfl, H⟩
    obtain ⟨k196, rfl⟩ | rfl : (∃ k', kk = k' + 1) ∨ kk = 0 := by cases kk; exact .inr rfl; exact .inl ⟨_, rfl⟩
    rotate_left
    · cases E
    rw [ref21_Blocks.l1] at E
    refine wc_seq (rg (v_ rfl (mv (.int .i64 x187) rfl) (v_ rfl (r_faddr fa_23_1 rfl) (v_ rfl (r_load sc_3 rfl (blk_cell (H.get 0 rfl) rfl)) (v_ rfl (r_lss rfl rfl) (v_ rfl (mv (.bool (decide (x187 < a0.2.1))) rfl) ?_))))))
    rcases Bool.eq_false_or_eq_true (decide (x187 < a0.2.1)) with c201 | c201
    · have E := iT c201 E
      refine on_ c201 rfl rfl (mv (.int .i64 x111) rfl) (on_ c201 rfl rfl (mv (.int .i64 x187) rfl) (on_ c201 rfl rfl (r_add rfl rfl) (on_ c201 rfl rfl (mv v2_ rfl) (on_ c201 rfl rfl (r_lenR ul_42 (H.rd h2) rfl) (on_ c201 rfl rfl (r_lss rfl rfl) (v_ rfl (pT (.bool (decide (IntKind.i64.wrap (x111 + x187) < (a2.length : Int)))) rfl rfl c201) (nl ?_)))))))
      refine wc_cond rfl (fun c202 => ?_) (fun c202 => ?_)
      · have E := iT c202 E
        refine wc_skip (n_thn (wc_seq (wc_block (wc_region (v_ rfl (mv v174 rfl) (v_ rfl (mv (.int .i64 x187) rfl) (v_ rfl (mv v2_ rfl) (v_ rfl (mv (.int .i64 x111) rfl) (v_ rfl (mv (.int .i64 x187) rfl) (v_ rfl (r_add rfl rfl) ?_))))))))))
        obtain ⟨⟨g203, g204⟩, E⟩ := grd_some E
        refine v_ rfl (r_idx sl_42 (H.rd h2) rfl rfl g203 g204) (v_ rfl (r_ldI sc_5 (H.rd h2) g203 g204 rfl) ?_)
        obtain ⟨⟨g205, g206⟩, E⟩ := grd_some E
        refine v_ rfl (r_idx sl_42 (own_rd (H.get 2 rfl)) rfl rfl g205 g206) (s_ (y_storeI sz_5 H 2 rfl g205 g206 rfl rfl (fun w H => (wl_nil (n_bk (n_thn (wc_region (v_ rfl (mv (.int .i64 x187) rfl) (v_ rfl (r_add rfl rfl) (v_ rfl (sg (.int .i64 (IntKind.i64.wrap (x187 + 1))) rfl) (wl_nil ?_)))))))))))
        exact ⟨k196, Nat.lt_succ_self _, _, _, _, Nat.le_of_succ_le hk197, E, upds_eq ⟨rfl, rfl, rfl, rfl, rfl, rfl, rfl, rfl, rfl, rfl, trivial⟩, H⟩
      · have E := iF c202 E
        refine wc_exit (x_thn (x_thn (x_bk (n_thn (wc_region (v_ rfl (mv v108 rfl) (v_ rfl (mv v174 rfl) ?_)))))))
        obtain ⟨p207, n208, c209, rfl⟩ := own_form (H.get 2 rfl)
        refine e_ rfl (y_bsB (l := [(.slice p207 n208 c209)]) sl_92 H rfl (by decide) ⟨rfl, rfl, rfl, trivial⟩ (by decide) (fun b210 w H => ?_))
        obtain ⟨g213, E⟩ := grd_some E
        refine e_ rfl (y_appRow sl_92 H 1 2 rfl rfl rfl (lit_hdr (H.get 3 rfl)) rfl rfl g213 (by unfold maxLen; omega) (fun v211 us212 w H => (v_ rfl (sg v211 rfl) (wl_nil (n_bk (n_thn (wc_region (v_ rfl (mv (.int .i64 x111) rfl) (v_ rfl (r_faddr fa_23_1 rfl) (v_ rfl (r_load sc_3 rfl (blk_cell (H.get 0 rfl) rfl)) (v_ rfl (r_add rfl rfl) (v_ rfl (sg (.int .i64 (IntKind.i64.wrap (x111 + a0.2.1))) rfl) (wl_nil ?_)))))))))))))
        exact ⟨k196, by omega, _, _, _, _, _, by omega, E, upds_eq ⟨rfl, rfl, rfl, rfl, rfl, rfl, rfl, rfl, trivial⟩, H.sel [0, 1] rfl rfl⟩
    · have E := iF c201 E
      refine off_ c201 rfl rfl rfl (off_ c201 rfl rfl rfl (off_ c201 rfl rfl rfl (off_ c201 rfl rfl rfl (off_ c201 rfl rfl rfl (off_ c201 rfl rfl rfl (v_ rfl (pF (.bool false) rfl rfl c201) (nl (wc_condF rfl (wc_exit (x_thn (x_thn (x_bk (n_thn (wc_region (v_ rfl (mv v108 rfl) (v_ rfl (mv v174 rfl) ?_))))))))))))))))
      obtain ⟨p214, n215, c216, rfl⟩ := own_form (H.get 2 rfl)
      refine e_ rfl (y_bsB (l := [(.slice p214 n215 c216)]) sl_92 H rfl (by decide) ⟨rfl, rfl, rfl, trivial⟩ (by decide) (fun b217 w H => ?_))
      obtain ⟨g220, E⟩ := grd_some E
      refine e_ rfl (y_appRow sl_92 H 1 2 rfl rfl rfl (lit_hdr (H.get 3 rfl)) rfl rfl g220 (by unfold maxLen; omega) (fun v218 us219 w H => (v_ rfl (sg v218 rfl) (wl_nil (n_bk (n_thn (wc_region (v_ rfl (mv (.int .i64 x111) rfl) (v_ rfl (r_faddr fa_23_1 rfl) (v_ rfl (r_load sc_3 rfl (blk_cell (H.get 0 rfl) rfl)) (v_ rfl (r_add rfl rfl) (v_ rfl (sg (.int .i64 (IntKind.i64.wrap (x111 + a0.2.1))) rfl) (wl_nil ?_)))))))))))))
      exact ⟨k196, by omega, _, _, _, _, _, by omega, E, upds_eq ⟨rfl, rfl, rfl, rfl, rfl, rfl, rfl, rfl, trivial⟩, H.sel [0, 1] rfl rfl⟩
def ref10_Space.f (a0 : Int × Int × Int) : Option (Int) := (ref10_Right.f (a0.1, a0.2.1, a0.2.2)).bind fun x2 => bif !decide (x2 = 0) then (some 0) else (some (IntKind.i64.wrap (a0.1 - a0.2.1)))
set_option maxRecDepth 100000 in
set_option maxHeartbeats 4000000 in
theorem ref10_Space.calls {w0 : World} {a0 : Int × Int × Int} {r : Int}  (E : ref10_Space.f a0 = some r) :
    Calls Try.prog 60 #[.agg #[.int .i64 a0.1, .int .i64 a0.2.1, .int .i64 a0.2.2]] w0 fun e w' => e = .returned (.int .i64 r) ∧ St no w0 w' [] := by
  have H := St.nil no w0
  unfold ref10_Space.f at E
  refine calls_of_wc (N := 11) (args := [.agg #[.int .i64 a0.1, .int .i64 a0.2.1, .int .i64 a0.2.2]]) Try.func60 rfl rfl (by simp) ?_
  refine rg (e_ rfl (y_boxS (cs := #[.int .i64 a0.1, .int .i64 a0.2.1, .int .i64 a0.2.2]) H rfl (fun b1 w H => (v_ rfl (sg (.int .i64 0) rfl) (nl (wc_seq (rg (v_ rfl (r_loadB (l := [.int .i64 a0.1, .int .i64 a0.2.1, .int .i64 a0.2.2]) ag_23 (H.get 0 rfl) rfl rfl rfl) ?_))))))))
  obtain ⟨x2, E3, E⟩ := bind_some E
  refine e_ rfl (y_callL en_54 rfl ((ref10_Right.calls E3).mono ?_))
  rintro _ w ⟨rfl, K⟩
  have H := H.app K
  refine ⟨_, rfl, (v_ rfl (r_neq rfl rfl) (nl ?_))⟩
  refine wc_cond rfl (fun c4 => ?_) (fun c4 => ?_)
  · have E := iT c4 E
    refine rg (v_ rfl (sg (.int .i64 0) rfl) (nl (wc_ret ?_)))
    cases E
    exact (r_thn ⟨.inl rfl, _, tk0 rfl ⟨resN rfl (rv_t rv_nil), rfl, H.sub0⟩⟩)
  · have E := iF c4 E
    refine wc_skip (n_thn (rg (v_ rfl (r_faddr fa_23_0 rfl) (v_ rfl (r_load sc_3 rfl (blk_cell (H.get 0 rfl) rfl)) (v_ rfl (r_faddr fa_23_1 rfl) (v_ rfl (r_load sc_3 rfl (blk_cell (H.get 0 rfl) rfl)) (v_ rfl (r_sub rfl rfl) (v_ rfl (sg (.int .i64 (IntKind.i64.wrap (a0.1 - a0.2.1))) rfl) (nl (wc_ret ?_))))))))))
    cases E
    exact ⟨.inl rfl, _, tk0 rfl ⟨resN rfl (rv_t rv_nil), rfl, H.sub0⟩⟩
def ref05_Deg.l0 : Nat → List Int → Int → Option (Int)
  | 0, _, _ => none
  | k + 1, a0, x6 => bif decide (0 ≤ x6) then (grd (decide ((0 : Int) ≤ x6 ∧ x6 < (a0.length : Int))) (bif !decide (at_ 0 a0 x6 = 0) then (some x6) else (ref05_Deg.l0 k a0 (IntKind.i64.wrap (x6 - 1))))) else (some (-1))
def ref05_Deg.f (k : Nat) (a0 : List Int) : Option (Int) := ref05_Deg.l0 k a0 (IntKind.i64.wrap ((a0.length : Int) - 1))
set_option maxRecDepth 100000 in
set_option maxHeartbeats 4000000 in
theorem ref05_Deg.calls {w0 : World} {k : Nat} {a0 : List Int} {v0_ : Value} {r : Int} (h0 : Rd (.of (.int .u8)) w0 (Ol no w0) v0_ a0) (E : ref05_Deg.f k a0 = some r) :
    Calls Try.prog 89 #[v0_] w0 fun e w' => e = .returned (.int .i64 r) ∧ St no w0 w' [] := by
  have H := St.nil no w0
  unfold ref05_Deg.f at E
  refine calls_of_wc (N := 17) (args := [v0_]) Try.func89 rfl rfl (by simp) ?_
  refine rg (v_ rfl (sg (.int .i64 0) rfl) (nl (wc_seq (rg (v_ rfl (mv v0_ rfl) (v_ rfl (r_lenR ul_42 (H.rd h0) rfl) (v_ rfl (r_sub rfl rfl) (v_ rfl (sg (.int .i64 (IntKind.i64.wrap ((a0.length : Int) - 1))) rfl) (nl (wc_block ?_))))))))))
  refine wc_loop (fun kk t w => ∃ (x6 : Int) (t14 : Fr), kk ≤ k ∧ ref05_Deg.l0 kk a0 x6 = some r ∧ t = upds t14 [(0, v0_), (2, .int .i64 0), (3, .int .i64 x6), (1000000, undef)] ∧ St no w0 w []) k ?_ ?_
  · exact ⟨_, _, Nat.le_refl _, E, upds_eq ⟨rfl, rfl, rfl, rfl, trivial⟩, H⟩
  rintro kk t w ⟨x6, t14, hk13, E, rfl, H⟩
  obtain ⟨k12, rfl⟩ | rfl : (∃ k', kk = k' + 1) ∨ kk = 0 := by cases kk; exact .inr rfl; exact .inl ⟨_, rfl⟩
  rotate_left
  · cases E
  rw [ref05_Deg.l0] at E
  refine wc_seq (rg (v_ rfl (mv (.int .i64 x6) rfl) (v_ rfl (r_geq rfl rfl) (nl ?_))))
  refine wc_cond rfl (fun c16 => ?_) (fun c16 => ?_)
  · have E := iT c16 E
    refine wc_skip (n_thn (wc_seq (wc_block (rg (v_ rfl (mv v0_ rfl) (v_ rfl (mv (.int .i64 x6) rfl) ?_))))))
    obtain ⟨⟨g17, g18⟩, E⟩ := grd_some E
    refine v_ rfl (r_idx sl_42 (H.rd h0) rfl rfl g17 g18) (v_ rfl (r_ldI sc_5 (H.rd h0) g17 g18 rfl) (v_ rfl (r_neq rfl rfl) (nl ?_)))
    refine wc_cond rfl (fun c19 => ?_) (fun c19 => ?_)
    · have E := iT c19 E
      refine rg (v_ rfl (mv (.int .i64 x6) rfl) (v_ rfl (sg (.int .i64 x6) rfl) (nl (wc_ret ?_))))
      cases E
      exact (r_bk (r_thn (r_thn (r_bk (r_thn ⟨.inl rfl, _, tk0 rfl ⟨resN rfl (rv_t rv_nil), rfl, H.sub0⟩⟩)))))
    · have E := iF c19 E
      refine wc_skip (n_bk (n_thn (wc_region (v_ rfl (mv (.int .i64 x6) rfl) (v_ rfl (r_sub rfl rfl) (v_ rfl (sg (.int .i64 (IntKind.i64.wrap (x6 - 1))) rfl) (wl_nil ?_)))))))
      exact ⟨k12, Nat.lt_succ_self _, _, _, Nat.le_of_succ_le hk13, E, upds_eq ⟨rfl, rfl, rfl, rfl, trivial⟩, H⟩
  · have E := iF c16 E
    refine wc_exit (x_thn (x_thn (x_bk (n_thn (rg (v_ rfl (sg (.int .i64 (-1)) rfl) (nl (wc_ret ?_))))))))
    cases E
    exact ⟨.inl rfl, _, tk0 rfl ⟨resN rfl (rv_t rv_nil), rfl, H.sub0⟩⟩
def ref05_Norm.f (k : Nat) (a0 : List Int) : Option (List Int) := (ref05_Deg.f k a0).bind fun x1 => grd (decide ((0 : Int) ≤ IntKind.i64.wrap (x1 + 1) ∧ IntKind.i64.wrap (x1 + 1) ≤ (a0.length : Int))) (grd (decide ((([] : List (Int)).length + ((a0.take ((IntKind.i64.wrap (x1 + 1)).toNat)).drop 0).length) * 1 ≤ 140737488355328)) (some (([] : List (Int)) ++ ((a0.take ((IntKind.i64.wrap (x1 + 1)).toNat)).drop 0))))
set_option maxRecDepth 100000 in
set_option maxHeartbeats 4000000 in
theorem ref05_Norm.calls {w0 : World} {k : Nat} {a0 : List Int} {v0_ : Value} {r : List Int} (h0 : Rd (.of (.int .u8)) w0 (Ol no w0) v0_ a0) (E : ref05_Norm.f k a0 = some r) :
    Calls Try.prog 74 #[v0_] w0 fun e w' => ∃ (u0 : Value), e = .returned (u0) ∧ St no w0 w' [.own (.int .u8) 5 u0 r] := by
  have H := St.nil no w0
  unfold ref05_Norm.f at E
  refine calls_of_wc (N := 11) (args := [v0_]) Try.func74 rfl rfl (by simp) ?_
  refine rg (v_ rfl (sg (.slice none 0 0) rfl) (nl (rg (v_ rfl (sg (.slice none 0 0) rfl) (nl (rg (v_ rfl (mv (.slice none 0 0) rfl) (v_ rfl (mv v0_ rfl) (v_ rfl (mv v0_ rfl) ?_)))))))))
  obtain ⟨x1, E2, E⟩ := bind_some E
  refine e_ rfl (y_callL en_89 rfl ((ref05_Deg.calls (H.arg (H.rd h0)) E2).mono ?_))
  rintro _ w ⟨rfl, K⟩
  have H := H.app K
  refine ⟨_, rfl, (v_ rfl (r_add rfl rfl) ?_)⟩
  obtain ⟨⟨g3, g4⟩, E⟩ := grd_some E
  have p6 : 0 ≤ (IntKind.i64.wrap (x1 + 1)).toNat := by omega
  have p7 : (IntKind.i64.wrap (x1 + 1)).toNat ≤ a0.length := by omega
  refine v_ rfl (r_slcHR sl_42 (H.rd h0) rfl rfl g3 g4) ?_
  have H := H.nilOwn (.int .u8) 5
  obtain ⟨g9, E⟩ := grd_some E
  refine e_ rfl (y_app sl_42 H 0 rfl (Rd.slv (H.rd h0) p6 p7) rfl rfl (by omega) (by unfold maxLen; omega) (fun v8 w H => (v_ rfl (sg v8 rfl) (nl (wc_ret ?_)))))
  cases E
  exact ⟨.inl rfl, _, tk0 rfl ⟨resN rfl (rv_t rv_nil), _, rfl, H.sub1 0 rfl⟩⟩
def ref05_Up.f (k : Nat) (a0 : List Int) (a1 : Int) : Option (List Int) := grd (decide ((0 : Int) ≤ a1 ∧ a1 ≤ a1 ∧ a1 ≤ 140737488355328)) (grd (decide (((List.replicate a1.toNat (0 : Int)).length + a0.length) * 1 ≤ 140737488355328)) ((ref05_Norm.f k ((List.replicate a1.toNat (0 : Int)) ++ a0)).bind fun x7 => some x7))
set_option maxRecDepth 100000 in
set_option maxHeartbeats 4000000 in
theorem ref05_Up.calls {w0 : World} {k : Nat} {a0 : List Int} {a1 : Int} {v0_ : Value} {r : List Int} (h0 : Rd (.of (.int .u8)) w0 (Ol no w0) v0_ a0) (E : ref05_Up.f k a0 a1 = some r) :
    Calls Try.prog 62 #[v0_, .int .i64 a1] w0 fun e w' => ∃ (u0 : Value), e = .returned (u0) ∧ St no w0 w' [.own (.int .u8) 5 u0 r] := by
  have H := St.nil no w0
  unfold ref05_Up.f at E
  refine calls_of_wc (N := 13) (args := [v0_, .int .i64 a1]) Try.func62 rfl rfl (by simp) ?_
  refine rg (v_ rfl (sg (.slice none 0 0) rfl) (nl (rg (v_ rfl (mv (.int .i64 a1) rfl) ?_))))
  obtain ⟨⟨g2, g3, g4⟩, E⟩ := grd_some E
  refine e_ rfl (y_make (e := (.int .u8)) (z0 := 0) sl_42 rfl H rfl rfl g2 g3 (by omega) (by omega) (fun v1 w H => (v_ rfl (sg v1 rfl) (nl (rg (v_ rfl (mv v1 rfl) (v_ rfl (mv v0_ rfl) ?_)))))))
  obtain ⟨g6, E⟩ := grd_some E
  refine e_ rfl (y_app sl_42 H 0 rfl (H.rd h0) rfl rfl (by omega) (by unfold maxLen; omega) (fun v5 w H => (v_ rfl (sg v5 rfl) (nl (rg (v_ rfl (mv v5 rfl) ?_))))))
  obtain ⟨x7, E8, E⟩ := bind_some E
  refine e_ rfl (y_callL en_74 rfl ((ref05_Norm.calls (H.own 0 rfl (own_rd (H.get 0 rfl))) E8).mono ?_))
  rintro _ w ⟨v9, rfl, K⟩
  have H := H.app K
  refine ⟨_, rfl, (v_ rfl (sg v9 rfl) (nl (wc_ret ?_)))⟩
  cases E
  exact ⟨.inl rfl, _, tk0 rfl ⟨resN rfl (rv_t rv_nil), _, rfl, H.sub1 1 rfl⟩⟩
end Go.Proofs.Ythfhhnlnlcbckaa.Gw
