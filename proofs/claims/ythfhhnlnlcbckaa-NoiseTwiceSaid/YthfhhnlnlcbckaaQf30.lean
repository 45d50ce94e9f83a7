/- erratum/erratumref19.Choose -/
/- PRINTED by gwmain.py of this project. -/
import Derived.Test.YthfhhnlnlcbckaaQ0
import Derived.Test.YthfhhnlnlcbckaaQf31
import Derived.Test.YthfhhnlnlcbckaaQf54
namespace Go.Proofs.Ythfhhnlnlcbckaa.Gw
open Go Go.RowKit
set_option linter.unusedVariables false
set_option linter.unusedSimpArgs false
def ref19_Choose.j0 (a0 : Int × Int × Int) (a2 : Int × Int) (x20 : Int) : Option ((Int × Int) × Int) := bif decide (a2.2 = 0) then (bif decide (64 ≤ a0.1) then (bif decide (a0.1 < 16) then (some ((x20, 2), 0)) else (some ((x20, 1), 0))) else (bif decide (a0.1 < 16) then (some ((x20, 2), 0)) else (some ((x20, 3), 0)))) else (some ((x20, a2.2), 0))
def ref19_Choose.f (a0 : Int × Int × Int) (a1 : Int) (a2 : Int × Int) : Option ((Int × Int) × Int) := (ref10_Right.f (a0.1, a0.2.1, a0.2.2)).bind fun x7 => bif !decide (x7 = 0) then (some ((0, 0), 10)) else ((ref19_Right.f (a2.1, a2.2)).bind fun x13 => bif !decide (x13 = 0) then (some ((0, 0), 11)) else (bif decide (a2.1 = 0) then (bif decide (IntKind.i64.wrap (Int.tdiv (IntKind.i64.wrap ((IntKind.i64.wrap (a0.1 - a0.2.1)) + 1)) 2) ≤ a1) then (bif decide (a0.1 ≤ 16) then (ref19_Choose.j0 a0 a2 3) else (ref19_Choose.j0 a0 a2 2)) else (bif decide (a0.1 ≤ 16) then (ref19_Choose.j0 a0 a2 3) else (ref19_Choose.j0 a0 a2 1))) else (ref19_Choose.j0 a0 a2 a2.1)))
set_option maxRecDepth 100000 in
set_option maxHeartbeats 4000000 in
theorem ref19_Choose.calls {w0 : World} {a0 : Int × Int × Int} {a1 : Int} {a2 : Int × Int} {r : (Int × Int) × Int}  (E : ref19_Choose.f a0 a1 a2 = some r) :
    Calls Try.prog 30 #[.agg #[.int .i64 a0.1, .int .i64 a0.2.1, .int .i64 a0.2.2], .int .i64 a1, .agg #[.int .i64 a2.1, .int .i64 a2.2]] w0 fun e w' => e = .returned (.tuple #[.agg #[.int .i64 r.1.1, .int .i64 r.1.2], .int .i64 r.2]) ∧ St no w0 w' [] := by
  have H := St.nil no w0
  unfold ref19_Choose.f at E
  refine calls_of_wc (N := 47) (args := [.agg #[.int .i64 a0.1, .int .i64 a0.2.1, .int .i64 a0.2.2], .int .i64 a1, .agg #[.int .i64 a2.1, .int .i64 a2.2]]) Try.func30 rfl rfl (by simp) ?_
  obtain ⟨k, _⟩ : ∃ k : Nat, k = 0 := ⟨0, rfl⟩
  refine rg (e_ rfl (y_boxS (cs := #[.int .i64 a0.1, .int .i64 a0.2.1, .int .i64 a0.2.2]) H rfl (fun b1 w H => (e_ rfl (y_boxS (cs := #[.int .i64 a2.1, .int .i64 a2.2]) H rfl (fun b2 w H => (e_ rfl (y_allocS zr_25 H (fun b3 w H => (v_ rfl (sg (.int .i64 0) rfl) (nl (wc_seq (rg (v_ rfl (r_loadB (l := [.int .i64 a0.1, .int .i64 a0.2.1, .int .i64 a0.2.2]) ag_23 (H.get 0 rfl) rfl rfl rfl) ?_))))))))))))))
  obtain ⟨x7, E8, E⟩ := bind_some E
  refine e_ rfl (y_callL en_54 rfl ((ref10_Right.calls E8).mono ?_))
  rintro _ w ⟨rfl, K⟩
  have H := H.app K
  refine ⟨_, rfl, (v_ rfl (r_neq rfl rfl) (nl ?_))⟩
  refine wc_cond rfl (fun c9 => ?_) (fun c9 => ?_)
  · have E := iT c9 E
    refine rg (v_ rfl (r_build (cs := [.int .i64 0, .int .i64 0]) bd_25 rfl) (s_ (y_storeBA sz_25 H 2 rfl rfl rfl rfl rfl rfl (fun w H => ?_))))
    have H : St no w0 w [.blk b1 #[.int .i64 a0.1, .int .i64 a0.2.1, .int .i64 a0.2.2] 23, .blk b2 #[.int .i64 a2.1, .int .i64 a2.2] 25, .blk b3 #[.int .i64 0, .int .i64 0] 25] := H
    refine v_ rfl (sg (.int .i64 10) rfl) (nl (wc_ret ?_))
    cases E
    exact (r_thn ⟨.inl rfl, _, resN rfl (rv_c rfl ag_25 (blk_range (n := 2) (H.get 2 rfl) rfl) rfl (rv_t rv_nil)), rfl, H.sub0⟩)
  · have E := iF c9 E
    refine wc_skip (n_thn (wc_seq (rg (v_ rfl (r_loadB (l := [.int .i64 a2.1, .int .i64 a2.2]) ag_25 (H.get 1 rfl) rfl rfl rfl) ?_))))
    obtain ⟨x13, E14, E⟩ := bind_some E
    refine e_ rfl (y_callL en_31 rfl ((ref19_Right.calls E14).mono ?_))
    rintro _ w ⟨rfl, K⟩
    have H := H.app K
    refine ⟨_, rfl, ?_⟩
    have H : St no w0 w [.blk b1 #[.int .i64 a0.1, .int .i64 a0.2.1, .int .i64 a0.2.2] 23, .blk b2 #[.int .i64 a2.1, .int .i64 a2.2] 25, .blk b3 #[.int .i64 0, .int .i64 0] 25] := H
    refine v_ rfl (r_neq rfl rfl) (nl ?_)
    refine wc_cond rfl (fun c15 => ?_) (fun c15 => ?_)
    · have E := iT c15 E
      refine rg (v_ rfl (r_build (cs := [.int .i64 0, .int .i64 0]) bd_25 rfl) (s_ (y_storeBA sz_25 H 2 rfl rfl rfl rfl rfl rfl (fun w H => (v_ rfl (sg (.int .i64 11) rfl) (nl (wc_ret ?_)))))))
      cases E
      exact (r_thn ⟨.inl rfl, _, resN rfl (rv_c rfl ag_25 (blk_range (n := 2) (H.get 2 rfl) rfl) rfl (rv_t rv_nil)), rfl, H.sub0⟩)
    · have E := iF c15 E
      refine wc_skip (n_thn ?_)
      refine wc_seqJ (fun t w => ∃ (k22 : Nat) (x20 : Int) (t21 : Fr), k22 ≤ k ∧ ref19_Choose.j0 a0 a2 x20 = some r ∧ t = upds t21 [(3, .pointer (some ⟨b1, 0, none⟩)), (5, .pointer (some ⟨b2, 0, none⟩)), (6, .pointer (some ⟨b3, 0, none⟩)), (7, .int .i64 0)] ∧ St no w0 w [.blk b1 #[.int .i64 a0.1, .int .i64 a0.2.1, .int .i64 a0.2.2] 23, .blk b2 #[.int .i64 x20, .int .i64 a2.2] 25, .blk b3 #[.int .i64 0, .int .i64 0] 25]) ?_ ?_
      · refine rg (v_ rfl (r_faddr fa_25_0 rfl) (v_ rfl (r_load sc_3 rfl (blk_cell (H.get 1 rfl) rfl)) (v_ rfl (r_eql rfl rfl) (nl ?_))))
        refine wc_cond rfl (fun c24 => ?_) (fun c24 => ?_)
        · have E := iT c24 E
          refine rg (v_ rfl (r_faddr fa_25_0 rfl) (s_ (y_storeB sz_3 H 1 rfl rfl rfl rfl rfl (fun w H => (nl (wc_seq (rg (v_ rfl (mv (.int .i64 a1) rfl) (v_ rfl (r_faddr fa_23_0 rfl) (v_ rfl (r_load sc_3 rfl (blk_cell (H.get 0 rfl) rfl)) (v_ rfl (r_faddr fa_23_1 rfl) (v_ rfl (r_load sc_3 rfl (blk_cell (H.get 0 rfl) rfl)) (v_ rfl (r_sub rfl rfl) (v_ rfl (r_add rfl rfl) (v_ rfl (r_quo rfl rfl (by decide)) (v_ rfl (r_geq rfl rfl) (nl ?_)))))))))))))))))
          refine wc_cond rfl (fun c25 => ?_) (fun c25 => ?_)
          · have E := iT c25 E
            refine wc_region (v_ rfl (r_faddr fa_25_0 rfl) (s_ (y_storeB sz_3 H 1 rfl rfl rfl rfl rfl (fun w H => (nl (rg (v_ rfl (r_faddr fa_23_0 rfl) (v_ rfl (r_load sc_3 rfl (blk_cell (H.get 0 rfl) rfl)) (v_ rfl (r_leq rfl rfl) (nl ?_))))))))))
            refine wc_cond rfl (fun c26 => ?_) (fun c26 => ?_)
            · have E := iT c26 E
              refine wc_region (v_ rfl (r_faddr fa_25_0 rfl) (s_ (y_storeB sz_3 H 1 rfl rfl rfl rfl rfl (fun w H => (wl_nil ?_)))))
              exact ⟨k, _, _, Nat.le_refl _, E, upds_eq ⟨rfl, rfl, rfl, rfl, trivial⟩, H⟩
            · have E := iF c26 E
              refine wc_skip ?_
              exact ⟨k, _, _, Nat.le_refl _, E, upds_eq ⟨rfl, rfl, rfl, rfl, trivial⟩, H⟩
          · have E := iF c25 E
            refine wc_skip (n_thn (rg (v_ rfl (r_faddr fa_23_0 rfl) (v_ rfl (r_load sc_3 rfl (blk_cell (H.get 0 rfl) rfl)) (v_ rfl (r_leq rfl rfl) (nl ?_))))))
            refine wc_cond rfl (fun c27 => ?_) (fun c27 => ?_)
            · have E := iT c27 E
              refine wc_region (v_ rfl (r_faddr fa_25_0 rfl) (s_ (y_storeB sz_3 H 1 rfl rfl rfl rfl rfl (fun w H => (wl_nil ?_)))))
              exact ⟨k, _, _, Nat.le_refl _, E, upds_eq ⟨rfl, rfl, rfl, rfl, trivial⟩, H⟩
            · have E := iF c27 E
              refine wc_skip ?_
              exact ⟨k, _, _, Nat.le_refl _, E, upds_eq ⟨rfl, rfl, rfl, rfl, trivial⟩, H⟩
        · have E := iF c24 E
          refine wc_skip ?_
          exact ⟨k, _, _, Nat.le_refl _, E, upds_eq ⟨rfl, rfl, rfl, rfl, trivial⟩, H⟩
      rintro t w ⟨k22, x20, t21, hk23, E, rfl, H⟩
      unfold ref19_Choose.j0 at E
      refine wc_seq (rg (v_ rfl (r_faddr fa_25_1 rfl) (v_ rfl (r_load sc_3 rfl (blk_cell (H.get 1 rfl) rfl)) (v_ rfl (r_eql rfl rfl) (nl ?_)))))
      refine wc_cond rfl (fun c28 => ?_) (fun c28 => ?_)
      · have E := iT c28 E
        refine rg (v_ rfl (r_faddr fa_25_1 rfl) (s_ (y_storeB sz_3 H 1 rfl rfl rfl rfl rfl (fun w H => (nl (wc_seq (rg (v_ rfl (r_faddr fa_23_0 rfl) (v_ rfl (r_load sc_3 rfl (blk_cell (H.get 0 rfl) rfl)) (v_ rfl (r_geq rfl rfl) (nl ?_)))))))))))
        refine wc_cond rfl (fun c29 => ?_) (fun c29 => ?_)
        · have E := iT c29 E
          refine wc_region (v_ rfl (r_faddr fa_25_1 rfl) (s_ (y_storeB sz_3 H 1 rfl rfl rfl rfl rfl (fun w H => (nl (rg (v_ rfl (r_faddr fa_23_0 rfl) (v_ rfl (r_load sc_3 rfl (blk_cell (H.get 0 rfl) rfl)) (v_ rfl (r_lss rfl rfl) (nl ?_))))))))))
          refine wc_cond rfl (fun c30 => ?_) (fun c30 => ?_)
          · have E := iT c30 E
            refine wc_region (v_ rfl (r_faddr fa_25_1 rfl) (s_ (y_storeB sz_3 H 1 rfl rfl rfl rfl rfl (fun w H => (nl (rg (v_ rfl (r_loadB (l := [.int .i64 x20, .int .i64 2]) ag_25 (H.get 1 rfl) rfl rfl rfl) (s_ (y_storeBA sz_25 H 2 rfl rfl rfl rfl rfl rfl (fun w H => (v_ rfl (sg (.int .i64 0) rfl) (nl (wc_ret ?_)))))))))))))
            cases E
            exact ⟨.inl rfl, _, resN rfl (rv_c rfl ag_25 (blk_range (n := 2) (H.get 2 rfl) rfl) rfl (rv_t rv_nil)), rfl, H.sub0⟩
          · have E := iF c30 E
            refine wc_skip (n_thn (rg (v_ rfl (r_loadB (l := [.int .i64 x20, .int .i64 1]) ag_25 (H.get 1 rfl) rfl rfl rfl) (s_ (y_storeBA sz_25 H 2 rfl rfl rfl rfl rfl rfl (fun w H => (v_ rfl (sg (.int .i64 0) rfl) (nl (wc_ret ?_)))))))))
            cases E
            exact ⟨.inl rfl, _, resN rfl (rv_c rfl ag_25 (blk_range (n := 2) (H.get 2 rfl) rfl) rfl (rv_t rv_nil)), rfl, H.sub0⟩
        · have E := iF c29 E
          refine wc_skip (n_thn (rg (v_ rfl (r_faddr fa_23_0 rfl) (v_ rfl (r_load sc_3 rfl (blk_cell (H.get 0 rfl) rfl)) (v_ rfl (r_lss rfl rfl) (nl ?_))))))
          refine wc_cond rfl (fun c31 => ?_) (fun c31 => ?_)
          · have E := iT c31 E
            refine wc_region (v_ rfl (r_faddr fa_25_1 rfl) (s_ (y_storeB sz_3 H 1 rfl rfl rfl rfl rfl (fun w H => (nl (rg (v_ rfl (r_loadB (l := [.int .i64 x20, .int .i64 2]) ag_25 (H.get 1 rfl) rfl rfl rfl) (s_ (y_storeBA sz_25 H 2 rfl rfl rfl rfl rfl rfl (fun w H => (v_ rfl (sg (.int .i64 0) rfl) (nl (wc_ret ?_)))))))))))))
            cases E
            exact ⟨.inl rfl, _, resN rfl (rv_c rfl ag_25 (blk_range (n := 2) (H.get 2 rfl) rfl) rfl (rv_t rv_nil)), rfl, H.sub0⟩
          · have E := iF c31 E
            refine wc_skip (n_thn (rg (v_ rfl (r_loadB (l := [.int .i64 x20, .int .i64 3]) ag_25 (H.get 1 rfl) rfl rfl rfl) (s_ (y_storeBA sz_25 H 2 rfl rfl rfl rfl rfl rfl (fun w H => (v_ rfl (sg (.int .i64 0) rfl) (nl (wc_ret ?_)))))))))
            cases E
            exact ⟨.inl rfl, _, resN rfl (rv_c rfl ag_25 (blk_range (n := 2) (H.get 2 rfl) rfl) rfl (rv_t rv_nil)), rfl, H.sub0⟩
      · have E := iF c28 E
        refine wc_skip (n_thn (rg (v_ rfl (r_loadB (l := [.int .i64 x20, .int .i64 a2.2]) ag_25 (H.get 1 rfl) rfl rfl rfl) (s_ (y_storeBA sz_25 H 2 rfl rfl rfl rfl rfl rfl (fun w H => (v_ rfl (sg (.int .i64 0) rfl) (nl (wc_ret ?_)))))))))
        cases E
        exact ⟨.inl rfl, _, resN rfl (rv_c rfl ag_25 (blk_range (n := 2) (H.get 2 rfl) rfl) rfl (rv_t rv_nil)), rfl, H.sub0⟩
end Go.Proofs.Ythfhhnlnlcbckaa.Gw
