/- erratum/erratumlaw19.PickKeeps -/
/- PRINTED by gwmain.py of this project. -/
import Derived.Test.YthfhhnlnlcbckaaQ0
import Derived.Test.YthfhhnlnlcbckaaQf12
import Derived.Test.YthfhhnlnlcbckaaQf13
import Derived.Test.YthfhhnlnlcbckaaQf15
import Derived.Test.YthfhhnlnlcbckaaQf16
namespace Go.Proofs.Ythfhhnlnlcbckaa.Gw
open Go Go.RowKit
set_option linter.unusedVariables false
set_option linter.unusedSimpArgs false
def law19_PickKeeps.j0 (k : Nat) (a4 : Int) (x5 : (Int × Int) × Int) (x8 : (Int × Int) × Int) (x34 : Int) : Option (Bool) := (law19_known.f k).bind fun x58 => bif x58 then (bif decide (x5.2 = 0) then (bif decide (x8.2 = 0) then (bif (x5.1.1 == x8.1.1) && (x5.1.2 == x8.1.2) then (bif decide (x34 = 1) then (bif decide (IntKind.i64.wrap (Int.tmod a4 4) = 0) then (bif decide (IntKind.i64.wrap (Int.tmod (IntKind.u8.wrap (Int.tdiv a4 4)) 4) = 0) then (some true) else (some (decide (x5.1.2 = IntKind.i64.wrap (Int.tmod (IntKind.u8.wrap (Int.tdiv a4 4)) 4))))) else (bif decide (x5.1.1 = IntKind.i64.wrap (Int.tmod a4 4)) then (bif decide (IntKind.i64.wrap (Int.tmod (IntKind.u8.wrap (Int.tdiv a4 4)) 4) = 0) then (some true) else (some (decide (x5.1.2 = IntKind.i64.wrap (Int.tmod (IntKind.u8.wrap (Int.tdiv a4 4)) 4))))) else (some false))) else (some false)) else (some false)) else (some false)) else (some false)) else (some false)
def law19_PickKeeps.l0 : Nat → Int → ((Int × Int) × Int) → ((Int × Int) × Int) → ((List (Int × Int))) → Int → Int → Option (Bool)
  | 0, _, _, _, _, _, _ => none
  | k + 1, a4, x5, x8, x11, x43, x44 => bif decide (x44 < (x11.length : Int)) then (grd (decide ((0 : Int) ≤ x44 ∧ x44 < (x11.length : Int))) (bif (((at_ (0, 0) x11 x44).1) == x5.1.1) && (((at_ (0, 0) x11 x44).2) == x5.1.2) then (law19_PickKeeps.l0 k a4 x5 x8 x11 (IntKind.i64.wrap (x43 + 1)) (IntKind.i64.wrap (x44 + 1))) else (law19_PickKeeps.l0 k a4 x5 x8 x11 x43 (IntKind.i64.wrap (x44 + 1))))) else (law19_PickKeeps.j0 k a4 x5 x8 x43)
def law19_PickKeeps.f (k : Nat) (a0 : Int) (a1 : Int) (a2 : Int) (a3 : Int) (a4 : Int) : Option (Bool) := (law10_Code.f a0 a1 a2).bind fun x1 => (pick_Choose.f (x1.1, x1.2.1, x1.2.2) a3 (IntKind.i64.wrap (Int.tmod a4 4), IntKind.i64.wrap (Int.tmod (IntKind.u8.wrap (Int.tdiv a4 4)) 4))).bind fun x5 => (pick_Choose.f (x1.1, x1.2.1, x1.2.2) a3 (x5.1.1, x5.1.2)).bind fun x8 => (pick_All.f k).bind fun x11 => law19_PickKeeps.l0 k a4 x5 x8 x11 0 0
set_option maxRecDepth 100000 in
set_option maxHeartbeats 4000000 in
theorem law19_PickKeeps.calls {w0 : World} {k : Nat} {a0 : Int} {a1 : Int} {a2 : Int} {a3 : Int} {a4 : Int} {r : Bool}  (E : law19_PickKeeps.f k a0 a1 a2 a3 a4 = some r) :
    Calls Try.prog 4 #[.int .u8 a0, .int .u8 a1, .int .u8 a2, .int .i64 a3, .int .u8 a4] w0 fun e w' => e = .returned (.bool r) ∧ St no w0 w' [] := by
  have H := St.nil no w0
  unfold law19_PickKeeps.f at E
  refine calls_of_wc (N := 103) (args := [.int .u8 a0, .int .u8 a1, .int .u8 a2, .int .i64 a3, .int .u8 a4]) Try.func4 rfl rfl (by simp) ?_
  refine rg (v_ rfl (sg (.bool false) rfl) (nl (rg (v_ rfl (mv (.int .u8 a0) rfl) (v_ rfl (mv (.int .u8 a1) rfl) (v_ rfl (mv (.int .u8 a2) rfl) ?_))))))
  obtain ⟨x1, E2, E⟩ := bind_some E
  refine e_ rfl (y_callL en_12 rfl ((law10_Code.calls E2).mono ?_))
  rintro _ w ⟨rfl, K⟩
  have H := H.app K
  refine ⟨_, rfl, (e_ rfl (y_allocS zr_23 H (fun b3 w H => (s_ (y_storeBA sz_23 H 0 rfl rfl rfl rfl rfl rfl (fun w H => (nl (rg (v_ rfl (mv (.int .u8 a4) rfl) (v_ rfl (r_rem rfl rfl (by decide)) (v_ rfl (r_conv rfl Try.underlying5 Try.underlying3) (v_ rfl (mv (.int .u8 a4) rfl) (v_ rfl (r_quo rfl rfl (by decide)) (v_ rfl (r_rem rfl rfl (by decide)) (v_ rfl (r_conv rfl Try.underlying5 Try.underlying3) (v_ rfl (r_build (cs := [.int .i64 (IntKind.i64.wrap (Int.tmod a4 4)), .int .i64 (IntKind.i64.wrap (Int.tmod (IntKind.u8.wrap (Int.tdiv a4 4)) 4))]) bd_25 rfl) (e_ rfl (y_allocS zr_25 H (fun b4 w H => (s_ (y_storeBA sz_25 H 1 rfl rfl rfl rfl rfl rfl (fun w H => (nl (rg ?_))))))))))))))))))))))))⟩
  have H : St no w0 w [.blk b3 #[.int .i64 x1.1, .int .i64 x1.2.1, .int .i64 x1.2.2] 23, .blk b4 #[.int .i64 (IntKind.i64.wrap (Int.tmod a4 4)), .int .i64 (IntKind.i64.wrap (Int.tmod (IntKind.u8.wrap (Int.tdiv a4 4)) 4))] 25] := H
  refine v_ rfl (r_loadB (l := [.int .i64 x1.1, .int .i64 x1.2.1, .int .i64 x1.2.2]) ag_23 (H.get 0 rfl) rfl rfl rfl) (v_ rfl (mv (.int .i64 a3) rfl) (v_ rfl (r_loadB (l := [.int .i64 (IntKind.i64.wrap (Int.tmod a4 4)), .int .i64 (IntKind.i64.wrap (Int.tmod (IntKind.u8.wrap (Int.tdiv a4 4)) 4))]) ag_25 (H.get 1 rfl) rfl rfl rfl) ?_))
  obtain ⟨x5, E6, E⟩ := bind_some E
  refine e_ rfl (y_callL en_15 rfl ((pick_Choose.calls E6).mono ?_))
  rintro _ w ⟨rfl, K⟩
  have H := H.app K
  refine ⟨_, rfl, (v_ rfl (r_move) (v_ rfl (r_extract rfl rfl) (v_ rfl (r_extract rfl rfl) (e_ rfl (y_allocS zr_25 H (fun b7 w H => (s_ (y_storeBA sz_25 H 2 rfl rfl rfl rfl rfl rfl (fun w H => (v_ rfl (sg (.int .u16 x5.2) rfl) (nl (rg (v_ rfl (r_loadB (l := [.int .i64 x1.1, .int .i64 x1.2.1, .int .i64 x1.2.2]) ag_23 (H.get 0 rfl) rfl rfl rfl) (v_ rfl (mv (.int .i64 a3) rfl) (v_ rfl (r_loadB (l := [.int .i64 x5.1.1, .int .i64 x5.1.2]) ag_25 (H.get 2 rfl) rfl rfl rfl) ?_)))))))))))))))⟩
  obtain ⟨x8, E9, E⟩ := bind_some E
  refine e_ rfl (y_callL en_15 rfl ((pick_Choose.calls E9).mono ?_))
  rintro _ w ⟨rfl, K⟩
  have H := H.app K
  refine ⟨_, rfl, (v_ rfl (r_move) (v_ rfl (r_extract rfl rfl) (v_ rfl (r_extract rfl rfl) (e_ rfl (y_allocS zr_25 H (fun b10 w H => ?_))))))⟩
  have H : St no w0 w [.blk b3 #[.int .i64 x1.1, .int .i64 x1.2.1, .int .i64 x1.2.2] 23, .blk b4 #[.int .i64 (IntKind.i64.wrap (Int.tmod a4 4)), .int .i64 (IntKind.i64.wrap (Int.tmod (IntKind.u8.wrap (Int.tdiv a4 4)) 4))] 25, .blk b7 #[.int .i64 x5.1.1, .int .i64 x5.1.2] 25, .blk b10 #[.int .i64 0, .int .i64 0] 25] := H
  refine s_ (y_storeBA sz_25 H 3 rfl rfl rfl rfl rfl rfl (fun w H => (v_ rfl (sg (.int .u16 x8.2) rfl) (nl (rg (v_ rfl (sg (.int .i64 0) rfl) (nl (rg ?_))))))))
  obtain ⟨x11, E12, E⟩ := bind_some E
  refine e_ rfl (y_callL en_16 rfl ((pick_All.calls E12).mono ?_))
  rintro _ w ⟨v13, rfl, K⟩
  have H := H.app K
  refine ⟨_, rfl, (v_ rfl (sg v13 rfl) (nl ?_))⟩
  refine wc_seqJ (fun t w => ∃ (k36 : Nat) (x34 : Int) (t35 : Fr), k36 ≤ k ∧ law19_PickKeeps.j0 k36 a4 x5 x8 x34 = some r ∧ t = upds t35 [(10, .bool false), (12, .pointer (some ⟨b4, 0, none⟩)), (13, .pointer (some ⟨b7, 0, none⟩)), (14, .int .u16 x5.2), (15, .pointer (some ⟨b10, 0, none⟩)), (16, .int .u16 x8.2), (17, .int .i64 x34)] ∧ St no w0 w [.blk b3 #[.int .i64 x1.1, .int .i64 x1.2.1, .int .i64 x1.2.2] 23, .blk b4 #[.int .i64 (IntKind.i64.wrap (Int.tmod a4 4)), .int .i64 (IntKind.i64.wrap (Int.tmod (IntKind.u8.wrap (Int.tdiv a4 4)) 4))] 25, .blk b7 #[.int .i64 x5.1.1, .int .i64 x5.1.2] 25, .blk b10 #[.int .i64 x8.1.1, .int .i64 x8.1.2] 25, .own (.pr (.int .i64) (.int .i64)) 25 v13 x11]) ?_ ?_
  · refine rg (v_ rfl (sg (.int .i64 0) rfl) (nl (wc_block ?_)))
    refine wc_loop (fun kk t w => ∃ (x43 : Int) (x44 : Int) (t52 : Fr), kk ≤ k ∧ law19_PickKeeps.l0 kk a4 x5 x8 x11 x43 x44 = some r ∧ t = upds t52 [(10, .bool false), (12, .pointer (some ⟨b4, 0, none⟩)), (13, .pointer (some ⟨b7, 0, none⟩)), (14, .int .u16 x5.2), (15, .pointer (some ⟨b10, 0, none⟩)), (16, .int .u16 x8.2), (17, .int .i64 x43), (18, v13), (19, .int .i64 x44)] ∧ St no w0 w [.blk b3 #[.int .i64 x1.1, .int .i64 x1.2.1, .int .i64 x1.2.2] 23, .blk b4 #[.int .i64 (IntKind.i64.wrap (Int.tmod a4 4)), .int .i64 (IntKind.i64.wrap (Int.tmod (IntKind.u8.wrap (Int.tdiv a4 4)) 4))] 25, .blk b7 #[.int .i64 x5.1.1, .int .i64 x5.1.2] 25, .blk b10 #[.int .i64 x8.1.1, .int .i64 x8.1.2] 25, .own (.pr (.int .i64) (.int .i64)) 25 v13 x11]) k ?_ ?_
    · exact ⟨_, _, _, Nat.le_refl _, E, upds_eq ⟨rfl, rfl, rfl, rfl, rfl, rfl, rfl, rfl, rfl, trivial⟩, H⟩
    rintro kk t w ⟨x43, x44, t52, hk51, E, rfl, H⟩
    obtain ⟨k50, rfl⟩ | rfl : (∃ k', kk = k' + 1) ∨ kk = 0 := by cases kk; exact .inr rfl; exact .inl ⟨_, rfl⟩
    rotate_left
    · cases E
    rw [law19_PickKeeps.l0] at E
    refine wc_seq (rg (v_ rfl (mv (.int .i64 x44) rfl) (v_ rfl (mv v13 rfl) (v_ rfl (r_lenR ul_35 (own_rd (H.get 4 rfl)) rfl) (v_ rfl (r_lss rfl rfl) (nl ?_))))))
    refine wc_cond rfl (fun c54 => ?_) (fun c54 => ?_)
    · have E := iT c54 E
      refine wc_skip (n_thn (wc_seq (wc_block (wc_seq (wc_drawnS (ds := []) mo H rfl rfl ?_)))))
      have H := H.drew
      refine wa_take (i := 0) (l' := #[true, false, false, false, false, false]) rfl rfl rfl (by kernel_rfl) H (fun w H => (mv v13 rfl)) (wa_take (i := 1) (l' := #[true, true, false, false, false, false]) rfl rfl rfl (by kernel_rfl) H (fun w H => (mv (.int .i64 x44) rfl)) ?_)
      obtain ⟨⟨g55, g56⟩, E⟩ := grd_some E
      refine wa_take (i := 2) (l' := #[true, true, true, false, false, false]) rfl rfl rfl (by kernel_rfl) H (fun w H => (r_idx sl_35 (own_rd (H.get 4 rfl)) rfl rfl g55 g56)) (wa_take (i := 3) (l' := #[true, true, true, true, false, false]) rfl rfl rfl (by kernel_rfl) H (fun w H => (r_ldA (z := (0, 0)) ag_25 (own_rd (H.get 4 rfl)) g55 g56 rfl rfl)) (wa_take (i := 4) (l' := #[true, true, true, true, true, false]) rfl rfl rfl (by kernel_rfl) H (fun w H => (r_loadB (l := [.int .i64 x5.1.1, .int .i64 x5.1.2]) ag_25 (H.get 2 rfl) rfl rfl rfl)) (wa_take (i := 5) (l' := #[true, true, true, true, true, true]) rfl rfl rfl (by kernel_rfl) H (fun w H => (r_eqlA (by kernel_rfl) (eqs0_25 _ ((at_ (0, 0) x11 x44).1) x5.1.1 ((at_ (0, 0) x11 x44).2) x5.1.2) rfl rfl)) (wa_done (by kernel_rfl) (n_thn ?_)))))
      refine wc_cond rfl (fun c57 => ?_) (fun c57 => ?_)
      · have E := iT c57 E
        refine wc_region (v_ rfl (mv (.int .i64 x43) rfl) (v_ rfl (r_add rfl rfl) (v_ rfl (sg (.int .i64 (IntKind.i64.wrap (x43 + 1))) rfl) (wl_nil (n_bk (n_thn (wc_region (v_ rfl (mv (.int .i64 x44) rfl) (v_ rfl (r_add rfl rfl) (v_ rfl (sg (.int .i64 (IntKind.i64.wrap (x44 + 1))) rfl) (wl_nil ?_)))))))))))
        exact ⟨k50, Nat.lt_succ_self _, _, _, _, Nat.le_of_succ_le hk51, E, upds_eq ⟨rfl, rfl, rfl, rfl, rfl, rfl, rfl, rfl, rfl, trivial⟩, H⟩
      · have E := iF c57 E
        refine wc_skip (n_bk (n_thn (wc_region (v_ rfl (mv (.int .i64 x44) rfl) (v_ rfl (r_add rfl rfl) (v_ rfl (sg (.int .i64 (IntKind.i64.wrap (x44 + 1))) rfl) (wl_nil ?_)))))))
        exact ⟨k50, Nat.lt_succ_self _, _, _, _, Nat.le_of_succ_le hk51, E, upds_eq ⟨rfl, rfl, rfl, rfl, rfl, rfl, rfl, rfl, rfl, trivial⟩, H⟩
    · have E := iF c54 E
      refine wc_exit (x_thn (x_thn (x_bk ?_)))
      exact ⟨k50, _, _, by omega, E, upds_eq ⟨rfl, rfl, rfl, rfl, rfl, rfl, rfl, trivial⟩, H⟩
  rintro t w ⟨k36, x34, t35, hk37, E, rfl, H⟩
  unfold law19_PickKeeps.j0 at E
  refine rg ?_
  obtain ⟨x58, E59, E⟩ := bind_some E
  refine e_ rfl (y_callL en_13 rfl ((law19_known.calls E59).mono ?_))
  rintro _ w ⟨rfl, K⟩
  have H := H.app K
  refine ⟨_, rfl, (v_ rfl (mv (.bool x58) rfl) ?_)⟩
  rcases Bool.eq_false_or_eq_true (x58) with c60 | c60
  · have E := iT c60 E
    refine on_ c60 rfl rfl (mv (.int .u16 x5.2) rfl) (on_ c60 rfl rfl (r_eql rfl rfl) (v_ rfl (pT (.bool (decide (x5.2 = 0))) rfl rfl c60) (v_ rfl (mv (.bool (decide (x5.2 = 0))) rfl) ?_)))
    rcases Bool.eq_false_or_eq_true (decide (x5.2 = 0)) with c61 | c61
    · have E := iT c61 E
      refine on_ c61 rfl rfl (mv (.int .u16 x8.2) rfl) (on_ c61 rfl rfl (r_eql rfl rfl) (v_ rfl (pT (.bool (decide (x8.2 = 0))) rfl rfl c61) (v_ rfl (mv (.bool (decide (x8.2 = 0))) rfl) ?_)))
      rcases Bool.eq_false_or_eq_true (decide (x8.2 = 0)) with c62 | c62
      · have E := iT c62 E
        refine on_ c62 rfl rfl (r_loadB (l := [.int .i64 x5.1.1, .int .i64 x5.1.2]) ag_25 (H.get 2 rfl) rfl rfl rfl) (on_ c62 rfl rfl (r_loadB (l := [.int .i64 x8.1.1, .int .i64 x8.1.2]) ag_25 (H.get 3 rfl) rfl rfl rfl) (on_ c62 rfl rfl (r_eqlA (by kernel_rfl) (eqs0_25 _ x5.1.1 x8.1.1 x5.1.2 x8.1.2) rfl rfl) (v_ rfl (pT (.bool ((x5.1.1 == x8.1.1) && (x5.1.2 == x8.1.2))) rfl rfl c62) (v_ rfl (mv (.bool ((x5.1.1 == x8.1.1) && (x5.1.2 == x8.1.2))) rfl) ?_))))
        rcases Bool.eq_false_or_eq_true ((x5.1.1 == x8.1.1) && (x5.1.2 == x8.1.2)) with c63 | c63
        · have E := iT c63 E
          refine on_ c63 rfl rfl (mv (.int .i64 x34) rfl) (on_ c63 rfl rfl (r_eql rfl rfl) (v_ rfl (pT (.bool (decide (x34 = 1))) rfl rfl c63) (v_ rfl (mv (.bool (decide (x34 = 1))) rfl) ?_)))
          rcases Bool.eq_false_or_eq_true (decide (x34 = 1)) with c64 | c64
          · have E := iT c64 E
            refine on_ c64 rfl rfl (r_faddr fa_25_0 rfl) (on_ c64 rfl rfl (r_load sc_3 rfl (blk_cell (H.get 1 rfl) rfl)) (on_ c64 rfl rfl (r_eql rfl rfl) (on_ c64 rfl rfl (mv (.bool (decide (IntKind.i64.wrap (Int.tmod a4 4) = 0))) rfl) ?_)))
            rcases Bool.eq_false_or_eq_true (decide (IntKind.i64.wrap (Int.tmod a4 4) = 0)) with c65 | c65
            · have E := iT c65 E
              refine off_ c65 rfl rfl rfl (off_ c65 rfl rfl rfl (off_ c65 rfl rfl rfl (off_ c65 rfl rfl rfl (off_ c65 rfl rfl rfl (on_ c64 rfl rfl (pT (.bool true) rfl rfl c65) (v_ rfl (pT (.bool true) rfl rfl c64) (v_ rfl (mv (.bool true) rfl) (on_ rfl rfl rfl (r_faddr fa_25_1 rfl) (on_ rfl rfl rfl (r_load sc_3 rfl (blk_cell (H.get 1 rfl) rfl)) (on_ rfl rfl rfl (r_eql rfl rfl) (on_ rfl rfl rfl (mv (.bool (decide (IntKind.i64.wrap (Int.tmod (IntKind.u8.wrap (Int.tdiv a4 4)) 4) = 0))) rfl) ?_)))))))))))
              rcases Bool.eq_false_or_eq_true (decide (IntKind.i64.wrap (Int.tmod (IntKind.u8.wrap (Int.tdiv a4 4)) 4) = 0)) with c66 | c66
              · have E := iT c66 E
                refine off_ c66 rfl rfl rfl (off_ c66 rfl rfl rfl (off_ c66 rfl rfl rfl (off_ c66 rfl rfl rfl (off_ c66 rfl rfl rfl (on_ rfl rfl rfl (pT (.bool true) rfl rfl c66) (v_ rfl (pT (.bool true) rfl rfl rfl) (v_ rfl (sg (.bool true) rfl) (nl (wc_ret ?_)))))))))
                cases E
                exact ⟨.inl rfl, _, resN rfl (rv_t rv_nil), rfl, H.sub0⟩
              · have E := iF c66 E
                refine on_ c66 rfl rfl (r_faddr fa_25_1 rfl) (on_ c66 rfl rfl (r_load sc_3 rfl (blk_cell (H.get 2 rfl) rfl)) (on_ c66 rfl rfl (r_faddr fa_25_1 rfl) (on_ c66 rfl rfl (r_load sc_3 rfl (blk_cell (H.get 1 rfl) rfl)) (on_ c66 rfl rfl (r_eql rfl rfl) (on_ rfl rfl rfl (pF (.bool (decide (x5.1.2 = IntKind.i64.wrap (Int.tmod (IntKind.u8.wrap (Int.tdiv a4 4)) 4)))) rfl rfl c66) (v_ rfl (pT (.bool (decide (x5.1.2 = IntKind.i64.wrap (Int.tmod (IntKind.u8.wrap (Int.tdiv a4 4)) 4)))) rfl rfl rfl) (v_ rfl (sg (.bool (decide (x5.1.2 = IntKind.i64.wrap (Int.tmod (IntKind.u8.wrap (Int.tdiv a4 4)) 4)))) rfl) (nl (wc_ret ?_)))))))))
                cases E
                exact ⟨.inl rfl, _, resN rfl (rv_t rv_nil), rfl, H.sub0⟩
            · have E := iF c65 E
              refine on_ c65 rfl rfl (r_faddr fa_25_0 rfl) (on_ c65 rfl rfl (r_load sc_3 rfl (blk_cell (H.get 2 rfl) rfl)) (on_ c65 rfl rfl (r_faddr fa_25_0 rfl) (on_ c65 rfl rfl (r_load sc_3 rfl (blk_cell (H.get 1 rfl) rfl)) (on_ c65 rfl rfl (r_eql rfl rfl) (on_ c64 rfl rfl (pF (.bool (decide (x5.1.1 = IntKind.i64.wrap (Int.tmod a4 4)))) rfl rfl c65) (v_ rfl (pT (.bool (decide (x5.1.1 = IntKind.i64.wrap (Int.tmod a4 4)))) rfl rfl c64) (v_ rfl (mv (.bool (decide (x5.1.1 = IntKind.i64.wrap (Int.tmod a4 4)))) rfl) ?_)))))))
              rcases Bool.eq_false_or_eq_true (decide (x5.1.1 = IntKind.i64.wrap (Int.tmod a4 4))) with c67 | c67
              · have E := iT c67 E
                refine on_ c67 rfl rfl (r_faddr fa_25_1 rfl) (on_ c67 rfl rfl (r_load sc_3 rfl (blk_cell (H.get 1 rfl) rfl)) (on_ c67 rfl rfl (r_eql rfl rfl) (on_ c67 rfl rfl (mv (.bool (decide (IntKind.i64.wrap (Int.tmod (IntKind.u8.wrap (Int.tdiv a4 4)) 4) = 0))) rfl) ?_)))
                rcases Bool.eq_false_or_eq_true (decide (IntKind.i64.wrap (Int.tmod (IntKind.u8.wrap (Int.tdiv a4 4)) 4) = 0)) with c68 | c68
                · have E := iT c68 E
                  refine off_ c68 rfl rfl rfl (off_ c68 rfl rfl rfl (off_ c68 rfl rfl rfl (off_ c68 rfl rfl rfl (off_ c68 rfl rfl rfl (on_ c67 rfl rfl (pT (.bool true) rfl rfl c68) (v_ rfl (pT (.bool true) rfl rfl c67) (v_ rfl (sg (.bool true) rfl) (nl (wc_ret ?_)))))))))
                  cases E
                  exact ⟨.inl rfl, _, resN rfl (rv_t rv_nil), rfl, H.sub0⟩
                · have E := iF c68 E
                  refine on_ c68 rfl rfl (r_faddr fa_25_1 rfl) (on_ c68 rfl rfl (r_load sc_3 rfl (blk_cell (H.get 2 rfl) rfl)) (on_ c68 rfl rfl (r_faddr fa_25_1 rfl) (on_ c68 rfl rfl (r_load sc_3 rfl (blk_cell (H.get 1 rfl) rfl)) (on_ c68 rfl rfl (r_eql rfl rfl) (on_ c67 rfl rfl (pF (.bool (decide (x5.1.2 = IntKind.i64.wrap (Int.tmod (IntKind.u8.wrap (Int.tdiv a4 4)) 4)))) rfl rfl c68) (v_ rfl (pT (.bool (decide (x5.1.2 = IntKind.i64.wrap (Int.tmod (IntKind.u8.wrap (Int.tdiv a4 4)) 4)))) rfl rfl c67) (v_ rfl (sg (.bool (decide (x5.1.2 = IntKind.i64.wrap (Int.tmod (IntKind.u8.wrap (Int.tdiv a4 4)) 4)))) rfl) (nl (wc_ret ?_)))))))))
                  cases E
                  exact ⟨.inl rfl, _, resN rfl (rv_t rv_nil), rfl, H.sub0⟩
              · have E := iF c67 E
                refine off_ c67 rfl rfl rfl (off_ c67 rfl rfl rfl (off_ c67 rfl rfl rfl (off_ c67 rfl rfl rfl (offN_ rfl rfl (offN_ rfl rfl (offN_ rfl rfl (offN_ rfl rfl (offN_ rfl rfl (off_ c67 rfl rfl rfl (v_ rfl (pF (.bool false) rfl rfl c67) (v_ rfl (sg (.bool false) rfl) (nl (wc_ret ?_)))))))))))))
                cases E
                exact ⟨.inl rfl, _, resN rfl (rv_t rv_nil), rfl, H.sub0⟩
          · have E := iF c64 E
            refine off_ c64 rfl rfl rfl (off_ c64 rfl rfl rfl (off_ c64 rfl rfl rfl (off_ c64 rfl rfl rfl (offN_ rfl rfl (offN_ rfl rfl (offN_ rfl rfl (offN_ rfl rfl (offN_ rfl rfl (off_ c64 rfl rfl rfl (v_ rfl (pF (.bool false) rfl rfl c64) (v_ rfl (mv (.bool false) rfl) (off_ rfl rfl rfl rfl (off_ rfl rfl rfl rfl (off_ rfl rfl rfl rfl (off_ rfl rfl rfl rfl (offN_ rfl rfl (offN_ rfl rfl (offN_ rfl rfl (offN_ rfl rfl (offN_ rfl rfl (off_ rfl rfl rfl rfl (v_ rfl (pF (.bool false) rfl rfl rfl) (v_ rfl (sg (.bool false) rfl) (nl (wc_ret ?_)))))))))))))))))))))))))
            cases E
            exact ⟨.inl rfl, _, resN rfl (rv_t rv_nil), rfl, H.sub0⟩
        · have E := iF c63 E
          refine off_ c63 rfl rfl rfl (off_ c63 rfl rfl rfl (v_ rfl (pF (.bool false) rfl rfl c63) (v_ rfl (mv (.bool false) rfl) (off_ rfl rfl rfl rfl (off_ rfl rfl rfl rfl (off_ rfl rfl rfl rfl (off_ rfl rfl rfl rfl (offN_ rfl rfl (offN_ rfl rfl (offN_ rfl rfl (offN_ rfl rfl (offN_ rfl rfl (off_ rfl rfl rfl rfl (v_ rfl (pF (.bool false) rfl rfl rfl) (v_ rfl (mv (.bool false) rfl) (off_ rfl rfl rfl rfl (off_ rfl rfl rfl rfl (off_ rfl rfl rfl rfl (off_ rfl rfl rfl rfl (offN_ rfl rfl (offN_ rfl rfl (offN_ rfl rfl (offN_ rfl rfl (offN_ rfl rfl (off_ rfl rfl rfl rfl (v_ rfl (pF (.bool false) rfl rfl rfl) (v_ rfl (sg (.bool false) rfl) (nl (wc_ret ?_)))))))))))))))))))))))))))))
          cases E
          exact ⟨.inl rfl, _, resN rfl (rv_t rv_nil), rfl, H.sub0⟩
      · have E := iF c62 E
        refine off_ c62 rfl rfl rfl (off_ c62 rfl rfl rfl (off_ c62 rfl rfl rfl (v_ rfl (pF (.bool false) rfl rfl c62) (v_ rfl (mv (.bool false) rfl) (off_ rfl rfl rfl rfl (off_ rfl rfl rfl rfl (v_ rfl (pF (.bool false) rfl rfl rfl) (v_ rfl (mv (.bool false) rfl) (off_ rfl rfl rfl rfl (off_ rfl rfl rfl rfl (off_ rfl rfl rfl rfl (off_ rfl rfl rfl rfl (offN_ rfl rfl (offN_ rfl rfl (offN_ rfl rfl (offN_ rfl rfl (offN_ rfl rfl (off_ rfl rfl rfl rfl (v_ rfl (pF (.bool false) rfl rfl rfl) (v_ rfl (mv (.bool false) rfl) (off_ rfl rfl rfl rfl (off_ rfl rfl rfl rfl (off_ rfl rfl rfl rfl (off_ rfl rfl rfl rfl (offN_ rfl rfl (offN_ rfl rfl (offN_ rfl rfl (offN_ rfl rfl (offN_ rfl rfl (off_ rfl rfl rfl rfl (v_ rfl (pF (.bool false) rfl rfl rfl) (v_ rfl (sg (.bool false) rfl) (nl (wc_ret ?_))))))))))))))))))))))))))))))))))
        cases E
        exact ⟨.inl rfl, _, resN rfl (rv_t rv_nil), rfl, H.sub0⟩
    · have E := iF c61 E
      refine off_ c61 rfl rfl rfl (off_ c61 rfl rfl rfl (v_ rfl (pF (.bool false) rfl rfl c61) (v_ rfl (mv (.bool false) rfl) (off_ rfl rfl rfl rfl (off_ rfl rfl rfl rfl (off_ rfl rfl rfl rfl (v_ rfl (pF (.bool false) rfl rfl rfl) (v_ rfl (mv (.bool false) rfl) (off_ rfl rfl rfl rfl (off_ rfl rfl rfl rfl (v_ rfl (pF (.bool false) rfl rfl rfl) (v_ rfl (mv (.bool false) rfl) (off_ rfl rfl rfl rfl (off_ rfl rfl rfl rfl (off_ rfl rfl rfl rfl (off_ rfl rfl rfl rfl (offN_ rfl rfl (offN_ rfl rfl (offN_ rfl rfl (offN_ rfl rfl (offN_ rfl rfl (off_ rfl rfl rfl rfl (v_ rfl (pF (.bool false) rfl rfl rfl) (v_ rfl (mv (.bool false) rfl) (off_ rfl rfl rfl rfl (off_ rfl rfl rfl rfl (off_ rfl rfl rfl rfl (off_ rfl rfl rfl rfl (offN_ rfl rfl (offN_ rfl rfl (offN_ rfl rfl (offN_ rfl rfl (offN_ rfl rfl (off_ rfl rfl rfl rfl (v_ rfl (pF (.bool false) rfl rfl rfl) (v_ rfl (sg (.bool false) rfl) (nl (wc_ret ?_))))))))))))))))))))))))))))))))))))))
      cases E
      exact ⟨.inl rfl, _, resN rfl (rv_t rv_nil), rfl, H.sub0⟩
  · have E := iF c60 E
    refine off_ c60 rfl rfl rfl (off_ c60 rfl rfl rfl (v_ rfl (pF (.bool false) rfl rfl c60) (v_ rfl (mv (.bool false) rfl) (off_ rfl rfl rfl rfl (off_ rfl rfl rfl rfl (v_ rfl (pF (.bool false) rfl rfl rfl) (v_ rfl (mv (.bool false) rfl) (off_ rfl rfl rfl rfl (off_ rfl rfl rfl rfl (off_ rfl rfl rfl rfl (v_ rfl (pF (.bool false) rfl rfl rfl) (v_ rfl (mv (.bool false) rfl) (off_ rfl rfl rfl rfl (off_ rfl rfl rfl rfl (v_ rfl (pF (.bool false) rfl rfl rfl) (v_ rfl (mv (.bool false) rfl) (off_ rfl rfl rfl rfl (off_ rfl rfl rfl rfl (off_ rfl rfl rfl rfl (off_ rfl rfl rfl rfl (offN_ rfl rfl (offN_ rfl rfl (offN_ rfl rfl (offN_ rfl rfl (offN_ rfl rfl (off_ rfl rfl rfl rfl (v_ rfl (pF (.bool false) rfl rfl rfl) (v_ rfl (mv (.bool false) rfl) (off_ rfl rfl rfl rfl (off_ rfl rfl rfl rfl (off_ rfl rfl rfl rfl (off_ rfl rfl rfl rfl (offN_ rfl rfl (offN_ rfl rfl (offN_ rfl rfl (offN_ rfl rfl (offN_ rfl rfl (off_ rfl rfl rfl rfl (v_ rfl (pF (.bool false) rfl rfl rfl) (v_ rfl (sg (.bool false) rfl) ?_))))))))))))))))))))))))))))))))))))))))
    refine nl (wc_ret ?_)
    cases E
    exact ⟨.inl rfl, _, resN rfl (rv_t rv_nil), rfl, H.sub0⟩
end Go.Proofs.Ythfhhnlnlcbckaa.Gw
