/- erratum/pick.Choose -/
/- PRINTED by gwmain.py of this project. -/
import Derived.Test.YthfhhnlnlcbckaaQ0
import Derived.Test.YthfhhnlnlcbckaaQf17
import Derived.Test.YthfhhnlnlcbckaaQf32
import Derived.Test.YthfhhnlnlcbckaaQf34
import Derived.Test.YthfhhnlnlcbckaaQf35
import Derived.Test.YthfhhnlnlcbckaaQf37
import Derived.Test.YthfhhnlnlcbckaaQf38
import Derived.Test.YthfhhnlnlcbckaaQf39
import Derived.Test.YthfhhnlnlcbckaaQf40
namespace Go.Proofs.Ythfhhnlnlcbckaa.Gw
open Go Go.RowKit
set_option linter.unusedVariables false
set_option linter.unusedSimpArgs false
def pick_Choose.j2 (x33 : Int) (x83 : Int) : Option ((Int × Int) × Int) := some ((x33, x83), 0)
def pick_Choose.j0 (a0 : Int × Int × Int) (a1 : Int) (a2 : Int × Int) (x33 : Int) : Option ((Int × Int) × Int) := bif decide (a2.2 = 0) then ((pick_Choose_4.f ((a0.1, a0.2.1, a0.2.2), a1)).bind fun x88 => bif x88 then (pick_Choose.j2 x33 1) else ((pick_Choose_5.f ((a0.1, a0.2.1, a0.2.2), a1)).bind fun x92 => bif x92 then (pick_Choose.j2 x33 2) else ((pick_Choose_6.f ((a0.1, a0.2.1, a0.2.2), a1)).bind fun x96 => bif x96 then (pick_Choose.j2 x33 3) else (pick_Choose.j2 x33 0)))) else (some ((x33, a2.2), 0))
def pick_Choose.j1 (a0 : Int × Int × Int) (a1 : Int) (a2 : Int × Int) (x52 : Int) : Option ((Int × Int) × Int) := pick_Choose.j0 a0 a1 a2 x52
def pick_Choose.f (a0 : Int × Int × Int) (a1 : Int) (a2 : Int × Int) : Option ((Int × Int) × Int) := (code_Right.f (a0.1, a0.2.1, a0.2.2)).bind fun x7 => bif !decide (x7 = 0) then (some ((0, 0), x7)) else ((pick_Right.f (a2.1, a2.2)).bind fun x13 => bif !decide (x13 = 0) then (some ((0, 0), x13)) else (bif decide (a2.1 = 0) then ((pick_Choose_1.f ((a0.1, a0.2.1, a0.2.2), a1)).bind fun x57 => bif x57 then (pick_Choose.j1 a0 a1 a2 3) else ((pick_Choose_2.f ((a0.1, a0.2.1, a0.2.2), a1)).bind fun x61 => bif x61 then (pick_Choose.j1 a0 a1 a2 2) else ((pick_Choose_3.f ((a0.1, a0.2.1, a0.2.2), a1)).bind fun x65 => bif x65 then (pick_Choose.j1 a0 a1 a2 1) else (pick_Choose.j1 a0 a1 a2 0)))) else (pick_Choose.j0 a0 a1 a2 a2.1)))
set_option maxRecDepth 100000 in
set_option maxHeartbeats 4000000 in
theorem pick_Choose.calls {w0 : World} {a0 : Int × Int × Int} {a1 : Int} {a2 : Int × Int} {r : (Int × Int) × Int}  (E : pick_Choose.f a0 a1 a2 = some r) :
    Calls Try.prog 15 #[.agg #[.int .i64 a0.1, .int .i64 a0.2.1, .int .i64 a0.2.2], .int .i64 a1, .agg #[.int .i64 a2.1, .int .i64 a2.2]] w0 fun e w' => e = .returned (.tuple #[.agg #[.int .i64 r.1.1, .int .i64 r.1.2], .int .u16 r.2]) ∧ St no w0 w' [] := by
  have H := St.nil no w0
  unfold pick_Choose.f at E
  refine calls_of_wc (N := 47) (args := [.agg #[.int .i64 a0.1, .int .i64 a0.2.1, .int .i64 a0.2.2], .int .i64 a1, .agg #[.int .i64 a2.1, .int .i64 a2.2]]) Try.func15 rfl rfl (by simp) ?_
  obtain ⟨k, _⟩ : ∃ k : Nat, k = 0 := ⟨0, rfl⟩
  refine rg (e_ rfl (y_boxS (cs := #[.int .i64 a0.1, .int .i64 a0.2.1, .int .i64 a0.2.2]) H rfl (fun b1 w H => (e_ rfl (y_boxS (cs := #[.int .i64 a2.1, .int .i64 a2.2]) H rfl (fun b2 w H => (e_ rfl (y_allocS zr_25 H (fun b3 w H => (v_ rfl (sg (.int .u16 0) rfl) (nl (wc_seq (rg (v_ rfl (r_loadB (l := [.int .i64 a0.1, .int .i64 a0.2.1, .int .i64 a0.2.2]) ag_23 (H.get 0 rfl) rfl rfl rfl) ?_))))))))))))))
  obtain ⟨x7, E8, E⟩ := bind_some E
  refine e_ rfl (y_callL en_32 rfl ((code_Right.calls E8).mono ?_))
  rintro _ w ⟨rfl, K⟩
  have H := H.app K
  refine ⟨_, rfl, (v_ rfl (sg (.int .u16 x7) rfl) (nl (rg (v_ rfl (mv (.int .u16 x7) rfl) (v_ rfl (r_neq rfl rfl) (nl ?_))))))⟩
  refine wc_cond rfl (fun c9 => ?_) (fun c9 => ?_)
  · have E := iT c9 E
    refine rg (v_ rfl (r_build (cs := [.int .i64 0, .int .i64 0]) bd_25 rfl) (v_ rfl (mv (.int .u16 x7) rfl) (s_ (y_storeBA sz_25 H 2 rfl rfl rfl rfl rfl rfl (fun w H => ?_)))))
    have H : St no w0 w [.blk b1 #[.int .i64 a0.1, .int .i64 a0.2.1, .int .i64 a0.2.2] 23, .blk b2 #[.int .i64 a2.1, .int .i64 a2.2] 25, .blk b3 #[.int .i64 0, .int .i64 0] 25] := H
    refine v_ rfl (sg (.int .u16 x7) rfl) (nl (wc_ret ?_))
    cases E
    exact (r_thn ⟨.inl rfl, _, resN rfl (rv_c rfl ag_25 (blk_range (n := 2) (H.get 2 rfl) rfl) rfl (rv_t rv_nil)), rfl, H.sub0⟩)
  · have E := iF c9 E
    refine wc_skip (n_thn (wc_seq (rg (v_ rfl (r_loadB (l := [.int .i64 a2.1, .int .i64 a2.2]) ag_25 (H.get 1 rfl) rfl rfl rfl) ?_))))
    obtain ⟨x13, E14, E⟩ := bind_some E
    refine e_ rfl (y_callL en_17 rfl ((pick_Right.calls E14).mono ?_))
    rintro _ w ⟨rfl, K⟩
    have H := H.app K
    refine ⟨_, rfl, ?_⟩
    have H : St no w0 w [.blk b1 #[.int .i64 a0.1, .int .i64 a0.2.1, .int .i64 a0.2.2] 23, .blk b2 #[.int .i64 a2.1, .int .i64 a2.2] 25, .blk b3 #[.int .i64 0, .int .i64 0] 25] := H
    refine v_ rfl (sg (.int .u16 x13) rfl) (nl (rg (v_ rfl (mv (.int .u16 x13) rfl) (v_ rfl (r_neq rfl rfl) (nl ?_)))))
    refine wc_cond rfl (fun c15 => ?_) (fun c15 => ?_)
    · have E := iT c15 E
      refine rg (v_ rfl (r_build (cs := [.int .i64 0, .int .i64 0]) bd_25 rfl) (v_ rfl (mv (.int .u16 x13) rfl) (s_ (y_storeBA sz_25 H 2 rfl rfl rfl rfl rfl rfl (fun w H => (v_ rfl (sg (.int .u16 x13) rfl) (nl (wc_ret ?_))))))))
      cases E
      exact (r_thn ⟨.inl rfl, _, resN rfl (rv_c rfl ag_25 (blk_range (n := 2) (H.get 2 rfl) rfl) rfl (rv_t rv_nil)), rfl, H.sub0⟩)
    · have E := iF c15 E
      refine wc_skip (n_thn (rg (v_ rfl (r_loadB (l := [.int .i64 a0.1, .int .i64 a0.2.1, .int .i64 a0.2.2]) ag_23 (H.get 0 rfl) rfl rfl rfl) (v_ rfl (mv (.int .i64 a1) rfl) (v_ rfl (r_build (cs := [.int .i64 a0.1, .int .i64 a0.2.1, .int .i64 a0.2.2, .int .i64 a1]) bd_70 rfl) (e_ rfl (y_allocS zr_70 H (fun b16 w H => (s_ (y_storeBA sz_70 H 3 rfl rfl rfl rfl rfl rfl (fun w H => (nl ?_))))))))))))
      refine wc_seqJ (fun t w => ∃ (k35 : Nat) (x33 : Int) (t34 : Fr), k35 ≤ k ∧ pick_Choose.j0 a0 a1 a2 x33 = some r ∧ t = upds t34 [(5, .pointer (some ⟨b2, 0, none⟩)), (6, .pointer (some ⟨b3, 0, none⟩)), (7, .int .u16 0), (10, .pointer (some ⟨b16, 0, none⟩))] ∧ St no w0 w [.blk b1 #[.int .i64 a0.1, .int .i64 a0.2.1, .int .i64 a0.2.2] 23, .blk b2 #[.int .i64 x33, .int .i64 a2.2] 25, .blk b3 #[.int .i64 0, .int .i64 0] 25, .blk b16 #[.int .i64 a0.1, .int .i64 a0.2.1, .int .i64 a0.2.2, .int .i64 a1] 70]) ?_ ?_
      · refine rg (v_ rfl (r_faddr fa_25_0 rfl) (v_ rfl (r_load sc_3 rfl (blk_cell (H.get 1 rfl) rfl)) (v_ rfl (r_eql rfl rfl) (nl ?_))))
        refine wc_cond rfl (fun c37 => ?_) (fun c37 => ?_)
        · have E := iT c37 E
          refine wc_region (v_ rfl (r_loadB (l := [.int .i64 a0.1, .int .i64 a0.2.1, .int .i64 a0.2.2, .int .i64 a1]) ag_70 (H.get 3 rfl) rfl rfl rfl) (v_ rfl (r_build (cs := [.func (.func 34) #[] #[], .int .i64 3]) bd_74 rfl) (v_ rfl (r_build (cs := [.func (.func 35) #[] #[], .int .i64 2]) bd_74 rfl) (v_ rfl (r_build (cs := [.func (.func 37) #[] #[], .int .i64 1]) bd_74 rfl) (e_ rfl (y_bsB (l := [.func (.func 34) #[] #[], .int .i64 3, .func (.func 35) #[] #[], .int .i64 2, .func (.func 37) #[] #[], .int .i64 1]) sl_76 H rfl (by decide) ⟨rfl, rfl, rfl, rfl, rfl, rfl, rfl, rfl, rfl, trivial⟩ (by decide) (fun b38 w H => ?_)))))))
          refine e_ rfl (y_J (fun v w => ∃ (k53 : Nat) (x52 : Int), k53 ≤ k ∧ pick_Choose.j1 a0 a1 a2 x52 = some r ∧ v = .int .i64 x52 ∧ St no w0 w [.blk b1 #[.int .i64 a0.1, .int .i64 a0.2.1, .int .i64 a0.2.2] 23, .blk b2 #[.int .i64 a2.1, .int .i64 a2.2] 25, .blk b3 #[.int .i64 0, .int .i64 0] 25, .blk b16 #[.int .i64 a0.1, .int .i64 a0.2.1, .int .i64 a0.2.2, .int .i64 a1] 70, .blk b38 #[.func (.func 34) #[] #[], .int .i64 3, .func (.func 35) #[] #[], .int .i64 2, .func (.func 37) #[] #[], .int .i64 1] 74]) ?_ ?_)
          · refine (y_in 20 [.agg #[.int .i64 a0.1, .int .i64 a0.2.1, .int .i64 a0.2.2, .int .i64 a1], .slice (some ⟨b38, 0, none⟩) 3 3] en_33 Try.func33 rfl rfl rfl rfl (rg (e_ rfl (y_boxS (cs := #[.int .i64 a0.1, .int .i64 a0.2.1, .int .i64 a0.2.2, .int .i64 a1]) H rfl (fun b55 w H => (v_ rfl (sg (.int .i64 0) rfl) (nl (wc_seq (rg (v_ rfl (mv (.slice (some ⟨b38, 0, none⟩) 3 3) rfl) (v_ rfl (rv_eq (r_len ul_76 rfl) (v' := .int .i64 3) rfl) (v_ rfl (mv (.int .i64 0) rfl) (nl (wc_block (wc_unroll (wu (rg (v_ rfl (rv_eq (v' := .bool true) (r_lss rfl rfl) rfl) (nl (wc_seq (wc_condT rfl (wc_skip (n_thn (wc_seq (wc_block (rg (v_ rfl (rv_eq (r_iaddr sl_76 rfl rfl (by decide) (by decide)) (v' := .pointer (some ⟨b38, 0, none⟩)) rfl) (v_ rfl (r_loadB (l := [.func (.func 34) #[] #[], .int .i64 3]) ag_74 (H.get 4 rfl) rfl rfl rfl) (e_ rfl (y_allocS zr_74 H (fun b56 w H => ?_)))))))))))))))))))))))))))))))
            have H : St no w0 w [.blk b1 #[.int .i64 a0.1, .int .i64 a0.2.1, .int .i64 a0.2.2] 23, .blk b2 #[.int .i64 a2.1, .int .i64 a2.2] 25, .blk b3 #[.int .i64 0, .int .i64 0] 25, .blk b16 #[.int .i64 a0.1, .int .i64 a0.2.1, .int .i64 a0.2.2, .int .i64 a1] 70, .blk b38 #[.func (.func 34) #[] #[], .int .i64 3, .func (.func 35) #[] #[], .int .i64 2, .func (.func 37) #[] #[], .int .i64 1] 74, .blk b55 #[.int .i64 a0.1, .int .i64 a0.2.1, .int .i64 a0.2.2, .int .i64 a1] 70, .blk b56 #[.nilFunc, .int .i64 0] 74] := H
            refine s_ (y_storeBA sz_74 H 6 rfl rfl rfl rfl rfl rfl (fun w H => (nl (rg (v_ rfl (r_faddr fa_74_0 rfl) (v_ rfl (r_load sc_72 rfl (blk_cell (H.get 6 rfl) rfl)) (v_ rfl (r_loadB (l := [.int .i64 a0.1, .int .i64 a0.2.1, .int .i64 a0.2.2, .int .i64 a1]) ag_70 (H.get 5 rfl) rfl rfl rfl) ?_)))))))
            obtain ⟨x57, E58, E⟩ := bind_some E
            refine e_ rfl (y_callvL rfl en_34 rfl ((pick_Choose_1.calls E58).mono ?_))
            rintro _ w ⟨rfl, K⟩
            have H := H.app K
            refine ⟨_, rfl, (nl ?_)⟩
            refine wc_cond rfl (fun c59 => ?_) (fun c59 => ?_)
            · have E := iT c59 E
              refine rg (v_ rfl (r_faddr fa_74_1 rfl) (v_ rfl (r_load sc_3 rfl (blk_cell (H.get 6 rfl) rfl)) (v_ rfl (sg (.int .i64 3) rfl) (nl (wc_ret ?_)))))
              exact (r_bk (r_thn (r_thn (r_bk (r_thn ⟨.inl rfl, .int .i64 3, resM rfl (rv_t rv_nil) rfl, k, _, Nat.le_refl _, E, rfl, H.sel [0, 1, 2, 3, 4] rfl rfl⟩)))))
            · have E := iF c59 E
              refine wc_skip (n_bk (n_thn (wc_region (v_ rfl (rv_eq (v' := .int .i64 1) (r_add rfl rfl) rfl) (v_ rfl (mv (.int .i64 1) rfl) (wl_nil (n_thn (wu (rg (v_ rfl (rv_eq (v' := .bool true) (r_lss rfl rfl) rfl) (nl (wc_seq (wc_condT rfl (wc_skip (n_thn (wc_seq (wc_block (rg (v_ rfl (rv_eq (r_iaddr sl_76 rfl rfl (by decide) (by decide)) (v' := .pointer (some ⟨b38, 2, none⟩)) rfl) (v_ rfl (r_loadB (l := [.func (.func 35) #[] #[], .int .i64 2]) ag_74 (H.get 4 rfl) rfl rfl rfl) (e_ rfl (y_allocS zr_74 H (fun b60 w H => (s_ (y_storeBA sz_74 H 7 rfl rfl rfl rfl rfl rfl (fun w H => (nl (rg (v_ rfl (r_faddr fa_74_0 rfl) (v_ rfl (r_load sc_72 rfl (blk_cell (H.get 7 rfl) rfl)) (v_ rfl (r_loadB (l := [.int .i64 a0.1, .int .i64 a0.2.1, .int .i64 a0.2.2, .int .i64 a1]) ag_70 (H.get 5 rfl) rfl rfl rfl) ?_)))))))))))))))))))))))))))))))
              obtain ⟨x61, E62, E⟩ := bind_some E
              refine e_ rfl (y_callvL rfl en_35 rfl ((pick_Choose_2.calls E62).mono ?_))
              rintro _ w ⟨rfl, K⟩
              have H := H.app K
              refine ⟨_, rfl, (nl ?_)⟩
              refine wc_cond rfl (fun c63 => ?_) (fun c63 => ?_)
              · have E := iT c63 E
                refine rg ?_
                have H : St no w0 w [.blk b1 #[.int .i64 a0.1, .int .i64 a0.2.1, .int .i64 a0.2.2] 23, .blk b2 #[.int .i64 a2.1, .int .i64 a2.2] 25, .blk b3 #[.int .i64 0, .int .i64 0] 25, .blk b16 #[.int .i64 a0.1, .int .i64 a0.2.1, .int .i64 a0.2.2, .int .i64 a1] 70, .blk b38 #[.func (.func 34) #[] #[], .int .i64 3, .func (.func 35) #[] #[], .int .i64 2, .func (.func 37) #[] #[], .int .i64 1] 74, .blk b55 #[.int .i64 a0.1, .int .i64 a0.2.1, .int .i64 a0.2.2, .int .i64 a1] 70, .blk b56 #[.func (.func 34) #[] #[], .int .i64 3] 74, .blk b60 #[.func (.func 35) #[] #[], .int .i64 2] 74] := H
                refine v_ rfl (r_faddr fa_74_1 rfl) (v_ rfl (r_load sc_3 rfl (blk_cell (H.get 7 rfl) rfl)) (v_ rfl (sg (.int .i64 2) rfl) (nl (wc_ret ?_))))
                exact (r_bk (r_thn (r_thn (r_bk (r_thn ⟨.inl rfl, .int .i64 2, resM rfl (rv_t rv_nil) rfl, k, _, Nat.le_refl _, E, rfl, H.sel [0, 1, 2, 3, 4] rfl rfl⟩)))))
              · have E := iF c63 E
                refine wc_skip (n_bk (n_thn (wc_region ?_)))
                have H : St no w0 w [.blk b1 #[.int .i64 a0.1, .int .i64 a0.2.1, .int .i64 a0.2.2] 23, .blk b2 #[.int .i64 a2.1, .int .i64 a2.2] 25, .blk b3 #[.int .i64 0, .int .i64 0] 25, .blk b16 #[.int .i64 a0.1, .int .i64 a0.2.1, .int .i64 a0.2.2, .int .i64 a1] 70, .blk b38 #[.func (.func 34) #[] #[], .int .i64 3, .func (.func 35) #[] #[], .int .i64 2, .func (.func 37) #[] #[], .int .i64 1] 74, .blk b55 #[.int .i64 a0.1, .int .i64 a0.2.1, .int .i64 a0.2.2, .int .i64 a1] 70, .blk b56 #[.func (.func 34) #[] #[], .int .i64 3] 74, .blk b60 #[.func (.func 35) #[] #[], .int .i64 2] 74] := H
                refine v_ rfl (rv_eq (v' := .int .i64 2) (r_add rfl rfl) rfl) (v_ rfl (mv (.int .i64 2) rfl) (wl_nil (n_thn (wu (rg (v_ rfl (rv_eq (v' := .bool true) (r_lss rfl rfl) rfl) (nl (wc_seq (wc_condT rfl (wc_skip (n_thn (wc_seq (wc_block (rg (v_ rfl (rv_eq (r_iaddr sl_76 rfl rfl (by decide) (by decide)) (v' := .pointer (some ⟨b38, 4, none⟩)) rfl) (v_ rfl (r_loadB (l := [.func (.func 37) #[] #[], .int .i64 1]) ag_74 (H.get 4 rfl) rfl rfl rfl) (e_ rfl (y_allocS zr_74 H (fun b64 w H => (s_ (y_storeBA sz_74 H 8 rfl rfl rfl rfl rfl rfl (fun w H => (nl (rg (v_ rfl (r_faddr fa_74_0 rfl) (v_ rfl (r_load sc_72 rfl (blk_cell (H.get 8 rfl) rfl)) (v_ rfl (r_loadB (l := [.int .i64 a0.1, .int .i64 a0.2.1, .int .i64 a0.2.2, .int .i64 a1]) ag_70 (H.get 5 rfl) rfl rfl rfl) ?_)))))))))))))))))))))))))))
                obtain ⟨x65, E66, E⟩ := bind_some E
                refine e_ rfl (y_callvL rfl en_37 rfl ((pick_Choose_3.calls E66).mono ?_))
                rintro _ w ⟨rfl, K⟩
                have H := H.app K
                refine ⟨_, rfl, (nl ?_)⟩
                refine wc_cond rfl (fun c67 => ?_) (fun c67 => ?_)
                · have E := iT c67 E
                  refine rg (v_ rfl (r_faddr fa_74_1 rfl) (v_ rfl (r_load sc_3 rfl (blk_cell (H.get 8 rfl) rfl)) (v_ rfl (sg (.int .i64 1) rfl) (nl (wc_ret ?_)))))
                  exact (r_bk (r_thn (r_thn (r_bk (r_thn ⟨.inl rfl, .int .i64 1, resM rfl (rv_t rv_nil) rfl, k, _, Nat.le_refl _, E, rfl, H.sel [0, 1, 2, 3, 4] rfl rfl⟩)))))
                · have E := iF c67 E
                  refine wc_skip (n_bk (n_thn (wc_region (v_ rfl (rv_eq (v' := .int .i64 3) (r_add rfl rfl) rfl) (v_ rfl (mv (.int .i64 3) rfl) (wl_nil (n_thn (wu (rg (v_ rfl (rv_eq (v' := .bool false) (r_lss rfl rfl) rfl) (nl (wc_seq (wc_condF rfl (wc_exit (x_thn (x_thn (x_bk (n_thn (rg (v_ rfl (sg (.int .i64 0) rfl) (nl (wc_ret ?_))))))))))))))))))))))
                  exact ⟨.inl rfl, .int .i64 0, resM rfl (rv_t rv_nil) rfl, k, _, Nat.le_refl _, E, rfl, H.sel [0, 1, 2, 3, 4] rfl rfl⟩
          rintro _ w ⟨k53, x52, hk54, E, rfl, H⟩
          unfold pick_Choose.j1 at E
          refine v_ rfl (r_faddr fa_25_0 rfl) (s_ (y_storeB sz_3 H 1 rfl rfl rfl rfl rfl (fun w H => (wl_nil ?_))))
          exact ⟨k53, _, _, by omega, E, upds_eq ⟨rfl, rfl, rfl, rfl, trivial⟩, H.sel [0, 1, 2, 3] rfl rfl⟩
        · have E := iF c37 E
          refine wc_skip ?_
          exact ⟨k, _, _, Nat.le_refl _, E, upds_eq ⟨rfl, rfl, rfl, rfl, trivial⟩, H⟩
      rintro t w ⟨k35, x33, t34, hk36, E, rfl, H⟩
      unfold pick_Choose.j0 at E
      refine wc_seq (rg (v_ rfl (r_faddr fa_25_1 rfl) (v_ rfl (r_load sc_3 rfl (blk_cell (H.get 1 rfl) rfl)) (v_ rfl (r_eql rfl rfl) (nl ?_)))))
      refine wc_cond rfl (fun c68 => ?_) (fun c68 => ?_)
      · have E := iT c68 E
        refine wc_region (v_ rfl (r_loadB (l := [.int .i64 a0.1, .int .i64 a0.2.1, .int .i64 a0.2.2, .int .i64 a1]) ag_70 (H.get 3 rfl) rfl rfl rfl) (v_ rfl (r_build (cs := [.func (.func 38) #[] #[], .int .i64 1]) bd_74 rfl) (v_ rfl (r_build (cs := [.func (.func 39) #[] #[], .int .i64 2]) bd_74 rfl) (v_ rfl (r_build (cs := [.func (.func 40) #[] #[], .int .i64 3]) bd_74 rfl) (e_ rfl (y_bsB (l := [.func (.func 38) #[] #[], .int .i64 1, .func (.func 39) #[] #[], .int .i64 2, .func (.func 40) #[] #[], .int .i64 3]) sl_76 H rfl (by decide) ⟨rfl, rfl, rfl, rfl, rfl, rfl, rfl, rfl, rfl, trivial⟩ (by decide) (fun b69 w H => ?_)))))))
        refine e_ rfl (y_J (fun v w => ∃ (k84 : Nat) (x83 : Int), k84 ≤ k35 ∧ pick_Choose.j2 x33 x83 = some r ∧ v = .int .i64 x83 ∧ St no w0 w [.blk b1 #[.int .i64 a0.1, .int .i64 a0.2.1, .int .i64 a0.2.2] 23, .blk b2 #[.int .i64 x33, .int .i64 a2.2] 25, .blk b3 #[.int .i64 0, .int .i64 0] 25, .blk b16 #[.int .i64 a0.1, .int .i64 a0.2.1, .int .i64 a0.2.2, .int .i64 a1] 70, .blk b69 #[.func (.func 38) #[] #[], .int .i64 1, .func (.func 39) #[] #[], .int .i64 2, .func (.func 40) #[] #[], .int .i64 3] 74]) ?_ ?_)
        · refine (y_in 20 [.agg #[.int .i64 a0.1, .int .i64 a0.2.1, .int .i64 a0.2.2, .int .i64 a1], .slice (some ⟨b69, 0, none⟩) 3 3] en_33 Try.func33 rfl rfl rfl rfl (rg (e_ rfl (y_boxS (cs := #[.int .i64 a0.1, .int .i64 a0.2.1, .int .i64 a0.2.2, .int .i64 a1]) H rfl (fun b86 w H => (v_ rfl (sg (.int .i64 0) rfl) (nl (wc_seq (rg (v_ rfl (mv (.slice (some ⟨b69, 0, none⟩) 3 3) rfl) (v_ rfl (rv_eq (r_len ul_76 rfl) (v' := .int .i64 3) rfl) (v_ rfl (mv (.int .i64 0) rfl) (nl (wc_block (wc_unroll (wu (rg (v_ rfl (rv_eq (v' := .bool true) (r_lss rfl rfl) rfl) (nl (wc_seq (wc_condT rfl (wc_skip (n_thn (wc_seq (wc_block (rg (v_ rfl (rv_eq (r_iaddr sl_76 rfl rfl (by decide) (by decide)) (v' := .pointer (some ⟨b69, 0, none⟩)) rfl) (v_ rfl (r_loadB (l := [.func (.func 38) #[] #[], .int .i64 1]) ag_74 (H.get 4 rfl) rfl rfl rfl) (e_ rfl (y_allocS zr_74 H (fun b87 w H => (s_ (y_storeBA sz_74 H 6 rfl rfl rfl rfl rfl rfl (fun w H => (nl (rg (v_ rfl (r_faddr fa_74_0 rfl) (v_ rfl (r_load sc_72 rfl (blk_cell (H.get 6 rfl) rfl)) (v_ rfl (r_loadB (l := [.int .i64 a0.1, .int .i64 a0.2.1, .int .i64 a0.2.2, .int .i64 a1]) ag_70 (H.get 5 rfl) rfl rfl rfl) ?_)))))))))))))))))))))))))))))))))))))))
          obtain ⟨x88, E89, E⟩ := bind_some E
          refine e_ rfl (y_callvL rfl en_38 rfl ((pick_Choose_4.calls E89).mono ?_))
          rintro _ w ⟨rfl, K⟩
          have H := H.app K
          refine ⟨_, rfl, (nl ?_)⟩
          refine wc_cond rfl (fun c90 => ?_) (fun c90 => ?_)
          · have E := iT c90 E
            refine rg ?_
            have H : St no w0 w [.blk b1 #[.int .i64 a0.1, .int .i64 a0.2.1, .int .i64 a0.2.2] 23, .blk b2 #[.int .i64 x33, .int .i64 a2.2] 25, .blk b3 #[.int .i64 0, .int .i64 0] 25, .blk b16 #[.int .i64 a0.1, .int .i64 a0.2.1, .int .i64 a0.2.2, .int .i64 a1] 70, .blk b69 #[.func (.func 38) #[] #[], .int .i64 1, .func (.func 39) #[] #[], .int .i64 2, .func (.func 40) #[] #[], .int .i64 3] 74, .blk b86 #[.int .i64 a0.1, .int .i64 a0.2.1, .int .i64 a0.2.2, .int .i64 a1] 70, .blk b87 #[.func (.func 38) #[] #[], .int .i64 1] 74] := H
            refine v_ rfl (r_faddr fa_74_1 rfl) (v_ rfl (r_load sc_3 rfl (blk_cell (H.get 6 rfl) rfl)) (v_ rfl (sg (.int .i64 1) rfl) (nl (wc_ret ?_))))
            exact (r_bk (r_thn (r_thn (r_bk (r_thn ⟨.inl rfl, .int .i64 1, resM rfl (rv_t rv_nil) rfl, k35, _, Nat.le_refl _, E, rfl, H.sel [0, 1, 2, 3, 4] rfl rfl⟩)))))
          · have E := iF c90 E
            refine wc_skip (n_bk (n_thn (wc_region ?_)))
            have H : St no w0 w [.blk b1 #[.int .i64 a0.1, .int .i64 a0.2.1, .int .i64 a0.2.2] 23, .blk b2 #[.int .i64 x33, .int .i64 a2.2] 25, .blk b3 #[.int .i64 0, .int .i64 0] 25, .blk b16 #[.int .i64 a0.1, .int .i64 a0.2.1, .int .i64 a0.2.2, .int .i64 a1] 70, .blk b69 #[.func (.func 38) #[] #[], .int .i64 1, .func (.func 39) #[] #[], .int .i64 2, .func (.func 40) #[] #[], .int .i64 3] 74, .blk b86 #[.int .i64 a0.1, .int .i64 a0.2.1, .int .i64 a0.2.2, .int .i64 a1] 70, .blk b87 #[.func (.func 38) #[] #[], .int .i64 1] 74] := H
            refine v_ rfl (rv_eq (v' := .int .i64 1) (r_add rfl rfl) rfl) (v_ rfl (mv (.int .i64 1) rfl) (wl_nil (n_thn (wu (rg (v_ rfl (rv_eq (v' := .bool true) (r_lss rfl rfl) rfl) (nl (wc_seq (wc_condT rfl (wc_skip (n_thn (wc_seq (wc_block (rg (v_ rfl (rv_eq (r_iaddr sl_76 rfl rfl (by decide) (by decide)) (v' := .pointer (some ⟨b69, 2, none⟩)) rfl) (v_ rfl (r_loadB (l := [.func (.func 39) #[] #[], .int .i64 2]) ag_74 (H.get 4 rfl) rfl rfl rfl) (e_ rfl (y_allocS zr_74 H (fun b91 w H => (s_ (y_storeBA sz_74 H 7 rfl rfl rfl rfl rfl rfl (fun w H => (nl (rg (v_ rfl (r_faddr fa_74_0 rfl) (v_ rfl (r_load sc_72 rfl (blk_cell (H.get 7 rfl) rfl)) (v_ rfl (r_loadB (l := [.int .i64 a0.1, .int .i64 a0.2.1, .int .i64 a0.2.2, .int .i64 a1]) ag_70 (H.get 5 rfl) rfl rfl rfl) ?_)))))))))))))))))))))))))))
            obtain ⟨x92, E93, E⟩ := bind_some E
            refine e_ rfl (y_callvL rfl en_39 rfl ((pick_Choose_5.calls E93).mono ?_))
            rintro _ w ⟨rfl, K⟩
            have H := H.app K
            refine ⟨_, rfl, (nl ?_)⟩
            refine wc_cond rfl (fun c94 => ?_) (fun c94 => ?_)
            · have E := iT c94 E
              refine rg (v_ rfl (r_faddr fa_74_1 rfl) (v_ rfl (r_load sc_3 rfl (blk_cell (H.get 7 rfl) rfl)) (v_ rfl (sg (.int .i64 2) rfl) (nl (wc_ret ?_)))))
              exact (r_bk (r_thn (r_thn (r_bk (r_thn ⟨.inl rfl, .int .i64 2, resM rfl (rv_t rv_nil) rfl, k35, _, Nat.le_refl _, E, rfl, H.sel [0, 1, 2, 3, 4] rfl rfl⟩)))))
            · have E := iF c94 E
              refine wc_skip (n_bk (n_thn (wc_region (v_ rfl (rv_eq (v' := .int .i64 2) (r_add rfl rfl) rfl) (v_ rfl (mv (.int .i64 2) rfl) (wl_nil (n_thn (wu (rg (v_ rfl (rv_eq (v' := .bool true) (r_lss rfl rfl) rfl) (nl (wc_seq (wc_condT rfl (wc_skip (n_thn (wc_seq (wc_block (rg (v_ rfl (rv_eq (r_iaddr sl_76 rfl rfl (by decide) (by decide)) (v' := .pointer (some ⟨b69, 4, none⟩)) rfl) (v_ rfl (r_loadB (l := [.func (.func 40) #[] #[], .int .i64 3]) ag_74 (H.get 4 rfl) rfl rfl rfl) (e_ rfl (y_allocS zr_74 H (fun b95 w H => (s_ (y_storeBA sz_74 H 8 rfl rfl rfl rfl rfl rfl (fun w H => (nl (rg ?_))))))))))))))))))))))))))))
              have H : St no w0 w [.blk b1 #[.int .i64 a0.1, .int .i64 a0.2.1, .int .i64 a0.2.2] 23, .blk b2 #[.int .i64 x33, .int .i64 a2.2] 25, .blk b3 #[.int .i64 0, .int .i64 0] 25, .blk b16 #[.int .i64 a0.1, .int .i64 a0.2.1, .int .i64 a0.2.2, .int .i64 a1] 70, .blk b69 #[.func (.func 38) #[] #[], .int .i64 1, .func (.func 39) #[] #[], .int .i64 2, .func (.func 40) #[] #[], .int .i64 3] 74, .blk b86 #[.int .i64 a0.1, .int .i64 a0.2.1, .int .i64 a0.2.2, .int .i64 a1] 70, .blk b87 #[.func (.func 38) #[] #[], .int .i64 1] 74, .blk b91 #[.func (.func 39) #[] #[], .int .i64 2] 74, .blk b95 #[.func (.func 40) #[] #[], .int .i64 3] 74] := H
              refine v_ rfl (r_faddr fa_74_0 rfl) (v_ rfl (r_load sc_72 rfl (blk_cell (H.get 8 rfl) rfl)) (v_ rfl (r_loadB (l := [.int .i64 a0.1, .int .i64 a0.2.1, .int .i64 a0.2.2, .int .i64 a1]) ag_70 (H.get 5 rfl) rfl rfl rfl) ?_))
              obtain ⟨x96, E97, E⟩ := bind_some E
              refine e_ rfl (y_callvL rfl en_40 rfl ((pick_Choose_6.calls E97).mono ?_))
              rintro _ w ⟨rfl, K⟩
              have H := H.app K
              refine ⟨_, rfl, (nl ?_)⟩
              refine wc_cond rfl (fun c98 => ?_) (fun c98 => ?_)
              · have E := iT c98 E
                refine rg (v_ rfl (r_faddr fa_74_1 rfl) (v_ rfl (r_load sc_3 rfl (blk_cell (H.get 8 rfl) rfl)) (v_ rfl (sg (.int .i64 3) rfl) (nl (wc_ret ?_)))))
                exact (r_bk (r_thn (r_thn (r_bk (r_thn ⟨.inl rfl, .int .i64 3, resM rfl (rv_t rv_nil) rfl, k35, _, Nat.le_refl _, E, rfl, H.sel [0, 1, 2, 3, 4] rfl rfl⟩)))))
              · have E := iF c98 E
                refine wc_skip (n_bk (n_thn (wc_region (v_ rfl (rv_eq (v' := .int .i64 3) (r_add rfl rfl) rfl) (v_ rfl (mv (.int .i64 3) rfl) (wl_nil (n_thn (wu (rg (v_ rfl (rv_eq (v' := .bool false) (r_lss rfl rfl) rfl) (nl (wc_seq (wc_condF rfl (wc_exit (x_thn (x_thn (x_bk (n_thn (rg (v_ rfl (sg (.int .i64 0) rfl) (nl (wc_ret ?_))))))))))))))))))))))
                exact ⟨.inl rfl, .int .i64 0, resM rfl (rv_t rv_nil) rfl, k35, _, Nat.le_refl _, E, rfl, H.sel [0, 1, 2, 3, 4] rfl rfl⟩
        rintro _ w ⟨k84, x83, hk85, E, rfl, H⟩
        unfold pick_Choose.j2 at E
        refine v_ rfl (r_faddr fa_25_1 rfl) (s_ (y_storeB sz_3 H 1 rfl rfl rfl rfl rfl (fun w H => (nl (rg (v_ rfl (r_loadB (l := [.int .i64 x33, .int .i64 x83]) ag_25 (H.get 1 rfl) rfl rfl rfl) (s_ (y_storeBA sz_25 H 2 rfl rfl rfl rfl rfl rfl (fun w H => (v_ rfl (sg (.int .u16 0) rfl) (nl (wc_ret ?_))))))))))))
        cases E
        exact ⟨.inl rfl, _, resN rfl (rv_c rfl ag_25 (blk_range (n := 2) (H.get 2 rfl) rfl) rfl (rv_t rv_nil)), rfl, H.sub0⟩
      · have E := iF c68 E
        refine wc_skip (n_thn (rg (v_ rfl (r_loadB (l := [.int .i64 x33, .int .i64 a2.2]) ag_25 (H.get 1 rfl) rfl rfl rfl) (s_ (y_storeBA sz_25 H 2 rfl rfl rfl rfl rfl rfl (fun w H => (v_ rfl (sg (.int .u16 0) rfl) (nl (wc_ret ?_)))))))))
        cases E
        exact ⟨.inl rfl, _, resN rfl (rv_c rfl ag_25 (blk_range (n := 2) (H.get 2 rfl) rfl) rfl (rv_t rv_nil)), rfl, H.sub0⟩
end Go.Proofs.Ythfhhnlnlcbckaa.Gw
