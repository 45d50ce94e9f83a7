/- What these functions compute, and that they do: weave_Unweave, weave_Spot, slices_Index, slices_Contains. -/
/- Printed by a program of this project. -/
import Derived.Test.YthfhhnlnlcbckaaQ0
import Derived.Test.YthfhhnlnlcbckaaQg6
namespace Go.Proofs.Ythfhhnlnlcbckaa.Gw
open Go Go.RowKit
set_option linter.unusedVariables false
set_option linter.unusedSimpArgs false
mutual
def weave_Unweave.l0 : Nat → (Int × Int × Int) → Int → List Int → Int → List (List (Int)) → Int → Option (List (List Int) × Int)
  | 0, _, _, _, _, _, _ => none
  | k + 1, a0, a1, a2, x19, l354, x355 => bif decide (x355 < (a2.length : Int)) then (grd (decide ((0 : Int) ≤ x355 ∧ x355 ≤ (a2.length : Int))) (grd (decide ((0 : Int) ≤ x355 ∧ x355 ≤ IntKind.i64.wrap (x355 + (min2 x19 (((a2.take a2.length).drop x355.toNat).length : Int))) ∧ IntKind.i64.wrap (x355 + (min2 x19 (((a2.take a2.length).drop x355.toNat).length : Int))) ≤ IntKind.i64.wrap (x355 + (min2 x19 (((a2.take a2.length).drop x355.toNat).length : Int))) ∧ IntKind.i64.wrap (x355 + (min2 x19 (((a2.take a2.length).drop x355.toNat).length : Int))) ≤ (a2.length : Int))) (weave_Unweave.l1 k a0 a1 a2 x19 x355 l354 0))) else (some (l354, 0))
def weave_Unweave.l1 : Nat → (Int × Int × Int) → Int → List Int → Int → Int → List (List (Int)) → Int → Option (List (List Int) × Int)
  | 0, _, _, _, _, _, _, _ => none
  | k + 1, a0, a1, a2, x19, x355, l552, x553 => bif decide (x553 < a1) then (grd (decide ((0 : Int) ≤ a0.1 ∧ a0.1 ≤ a0.1 ∧ a0.1 ≤ 140737488355328)) (weave_Unweave.l2 k a0 a1 a2 x19 x355 l552 x553 (List.replicate a0.1.toNat (0 : Int)) 0)) else (weave_Unweave.l0 k a0 a1 a2 x19 l552 (IntKind.i64.wrap (x355 + x19)))
def weave_Unweave.l2 : Nat → (Int × Int × Int) → Int → List Int → Int → Int → List (List (Int)) → Int → List (Int) → Int → Option (List (List Int) × Int)
  | 0, _, _, _, _, _, _, _, _, _ => none
  | k + 1, a0, a1, a2, x19, x355, l552, x553, l608, x609 => bif decide (x609 < ((List.replicate a0.1.toNat (0 : Int)).length : Int)) then (grd (decide ((0 : Int) ≤ IntKind.i64.wrap ((IntKind.i64.wrap (x609 * a1)) + x553) ∧ IntKind.i64.wrap ((IntKind.i64.wrap (x609 * a1)) + x553) < (((a2.take ((IntKind.i64.wrap (x355 + (min2 x19 (((a2.take a2.length).drop x355.toNat).length : Int)))).toNat)).drop x355.toNat).length : Int))) (grd (decide ((0 : Int) ≤ x609 ∧ x609 < (l608.length : Int))) (weave_Unweave.l2 k a0 a1 a2 x19 x355 l552 x553 (l608.set x609.toNat (at_ 0 ((a2.take ((IntKind.i64.wrap (x355 + (min2 x19 (((a2.take a2.length).drop x355.toNat).length : Int)))).toNat)).drop x355.toNat) (IntKind.i64.wrap ((IntKind.i64.wrap (x609 * a1)) + x553)))) (IntKind.i64.wrap (x609 + 1))))) else (grd (decide ((l552.length + 1) * 24 ≤ 140737488355328)) (weave_Unweave.l1 k a0 a1 a2 x19 x355 (l552 ++ [l608]) (IntKind.i64.wrap (x553 + 1))))
end
def weave_Unweave.f (k : Nat) (a0 : Int × Int × Int) (a1 : Int) (a2 : List Int) : Option (List (List Int) × Int) := (weave_loom_right.f ((a0.1, a0.2.1, a0.2.2), a1)).bind fun x7 => bif !decide (x7 = 0) then (some (([] : List (List (Int))), x7)) else ((weave_loom_sheaf.f ((a0.1, a0.2.1, a0.2.2), a1)).bind fun x14 => grd (decide (x14 ≠ 0)) (bif !decide (Int.tmod (a2.length : Int) x14 = 0) then (some (([] : List (List (Int))), 12)) else ((weave_loom_sheaf.f ((a0.1, a0.2.1, a0.2.2), a1)).bind fun x19 => bif decide (x19 < 1) then (none) else (weave_Unweave.l0 k a0 a1 a2 x19 ([] : List (List (Int))) 0))))
set_option maxRecDepth 100000 in
set_option maxHeartbeats 4000000 in
theorem weave_Unweave.calls {w0 : World} {k : Nat} {a0 : Int × Int × Int} {a1 : Int} {a2 : List Int} {v2_ : Value} {r : List (List Int) × Int} (h2 : Rd (.of (.int .u8)) w0 (Ol no w0) v2_ a2) (E : weave_Unweave.f k a0 a1 a2 = some r) :
    Calls Try.prog 51 #[.agg #[.int .i64 a0.1, .int .i64 a0.2.1, .int .i64 a0.2.2], .int .i64 a1, v2_] w0 fun e w' => ∃ (u0 : Value) (us0 : List Sv), e = .returned (.tuple #[u0, .int .u16 r.2]) ∧ St no w0 w' [.rows (.int .u8) 5 42 u0 us0 r.1] := by
  have H := St.nil no w0
  unfold weave_Unweave.f at E
  refine calls_of_wc (N := 65) (args := [.agg #[.int .i64 a0.1, .int .i64 a0.2.1, .int .i64 a0.2.2], .int .i64 a1, v2_]) Try.func51 rfl rfl (by simp) ?_
  have H := H.mk0
  refine rg (e_ rfl (y_boxS (cs := #[.int .i64 a0.1, .int .i64 a0.2.1, .int .i64 a0.2.2]) H rfl (fun b1 w H => (e_ rfl (y_boxS (cs := #[.int .i64 a1]) H rfl (fun b2 w H => (v_ rfl (sg (.slice none 0 0) rfl) (v_ rfl (sg (.int .u16 0) rfl) (nl (rg (v_ rfl (r_loadB (l := [.int .i64 a0.1, .int .i64 a0.2.1, .int .i64 a0.2.2]) ag_23 (H.get 1 rfl) rfl rfl rfl) (v_ rfl (r_load sc_3 rfl (blk_cell (H.get 2 rfl) rfl)) (v_ rfl (r_build (cs := [.int .i64 a0.1, .int .i64 a0.2.1, .int .i64 a0.2.2, .int .i64 a1]) bd_111 rfl) (e_ rfl (y_allocS zr_111 H (fun b3 w H => (s_ (y_storeBA sz_111 H 3 rfl rfl rfl rfl rfl rfl (fun w H => (nl (wc_seq (rg (v_ rfl (r_loadB (l := [.int .i64 a0.1, .int .i64 a0.2.1, .int .i64 a0.2.2, .int .i64 a1]) ag_111 (H.get 3 rfl) rfl rfl rfl) ?_)))))))))))))))))))))))
  obtain ⟨x7, E8, E⟩ := bind_some E
  refine e_ rfl (y_callL en_66 rfl ((weave_loom_right.calls E8).mono ?_))
  rintro _ w ⟨rfl, K⟩
  have H := H.app K
  refine ⟨_, rfl, ?_⟩
  have H : St no w0 w [.mks undef, .blk b1 #[.int .i64 a0.1, .int .i64 a0.2.1, .int .i64 a0.2.2] 23, .blk b2 #[.int .i64 a1] 3, .blk b3 #[.int .i64 a0.1, .int .i64 a0.2.1, .int .i64 a0.2.2, .int .i64 a1] 111] := H
  refine v_ rfl (sg (.int .u16 x7) rfl) (nl (rg (v_ rfl (mv (.int .u16 x7) rfl) (v_ rfl (r_neq rfl rfl) (nl ?_)))))
  refine wc_cond rfl (fun c9 => ?_) (fun c9 => ?_)
  · have E := iT c9 E
    refine rg (v_ rfl (mv (.int .u16 x7) rfl) (v_ rfl (sg (.slice none 0 0) rfl) (v_ rfl (sg (.int .u16 x7) rfl) (nl (wc_ret ?_)))))
    have H := H.nilRows (.int .u8) 5 42
    cases E
    exact (r_thn ⟨.inl rfl, _, tkA H 0 rfl rfl (fun w H => ⟨resN rfl (rv_t (rv_t rv_nil)), _, _, rfl, H.sub1 4 rfl⟩)⟩)
  · have E := iF c9 E
    refine wc_skip (n_thn (wc_seq (rg (v_ rfl (mv v2_ rfl) (v_ rfl (r_lenR ul_42 (H.rd h2) rfl) (v_ rfl (r_loadB (l := [.int .i64 a0.1, .int .i64 a0.2.1, .int .i64 a0.2.2, .int .i64 a1]) ag_111 (H.get 3 rfl) rfl rfl rfl) ?_))))))
    obtain ⟨x14, E15, E⟩ := bind_some E
    refine e_ rfl (y_callL en_67 rfl ((weave_loom_sheaf.calls E15).mono ?_))
    rintro _ w ⟨rfl, K⟩
    have H := H.app K
    refine ⟨_, rfl, ?_⟩
    obtain ⟨g16, E⟩ := grd_some E
    refine v_ rfl (r_rem rfl rfl g16) (v_ rfl (r_neq rfl rfl) (nl ?_))
    refine wc_cond rfl (fun c17 => ?_) (fun c17 => ?_)
    · have E := iT c17 E
      refine rg (v_ rfl (sg (.slice none 0 0) rfl) (v_ rfl (sg (.int .u16 12) rfl) (nl (wc_ret ?_))))
      have H := H.nilRows (.int .u8) 5 42
      cases E
      exact (r_thn ⟨.inl rfl, _, tkA H 0 rfl rfl (fun w H => ⟨resN rfl (rv_t (rv_t rv_nil)), _, _, rfl, H.sub1 4 rfl⟩)⟩)
    · have E := iF c17 E
      refine wc_skip (n_thn (rg (e_ rfl (y_allocS zr_92 H (fun b18 w H => (nl (wc_seq (rg (v_ rfl (mv v2_ rfl) (v_ rfl (r_loadB (l := [.int .i64 a0.1, .int .i64 a0.2.1, .int .i64 a0.2.2, .int .i64 a1]) ag_111 (H.get 3 rfl) rfl rfl rfl) ?_))))))))))
      obtain ⟨x19, E20, E⟩ := bind_some E
      refine e_ rfl (y_callL en_67 rfl ((weave_loom_sheaf.calls E20).mono ?_))
      rintro _ w ⟨rfl, K⟩
      have H := H.app K
      refine ⟨_, rfl, (e_ rfl (y_in 9 [v2_, .int .i64 x19] en_68 Try.func68 rfl rfl rfl rfl (rg ?_)))⟩
      obtain ⟨p27, n28, c29, rfl⟩ := rd_form h2
      refine e_ rfl (y_boxS (cs := #[(.slice p27 n28 c29)]) H rfl (fun b30 w H => (e_ rfl (y_boxS (cs := #[.int .i64 x19]) H rfl (fun b31 w H => ?_)))))
      have H : St no w0 w [.mks undef, .blk b1 #[.int .i64 a0.1, .int .i64 a0.2.1, .int .i64 a0.2.2] 23, .blk b2 #[.int .i64 a1] 3, .blk b3 #[.int .i64 a0.1, .int .i64 a0.2.1, .int .i64 a0.2.2, .int .i64 a1] 111, .blk b18 #[.slice none 0 0] 92, .blk b30 #[(.slice p27 n28 c29)] 42, .blk b31 #[.int .i64 x19] 3] := H
      refine v_ rfl (sg (.nilFunc) rfl) (nl (wc_seq (rg (v_ rfl (r_load sc_3 rfl (blk_cell (H.get 6 rfl) rfl)) (v_ rfl (r_lss rfl rfl) (nl ?_))))))
      refine wc_cond rfl (fun c32 => ?_) (fun c32 => ?_)
      · have E := iT c32 E
        refine wc_region ?_
        cases E
      · have E := iF c32 E
        refine wc_skip (n_thn (rg (v_ rfl (r_mkf [.pointer (some ⟨b30, 0, none⟩), .pointer (some ⟨b31, 0, none⟩)] rfl) (v_ rfl (sg (.func (.func 77) #[] #[.pointer (some ⟨b30, 0, none⟩), .pointer (some ⟨b31, 0, none⟩)]) rfl) (nl (wc_ret (⟨.inl rfl, .func (.func 77) #[] #[.pointer (some ⟨b30, 0, none⟩), .pointer (some ⟨b31, 0, none⟩)], tk0 rfl ⟨resM rfl (rv_t rv_nil) rfl, (nl (wc_block (wc_rf 31 [.pointer (some ⟨b30, 0, none⟩), .pointer (some ⟨b31, 0, none⟩)] rfl Try.func77 rfl rfl rfl rfl rfl H 0 rfl rfl (fun v36 b33 o34 w hO35 H => (rg (v_ rfl (sg (.int .i64 0) rfl) (nl (wc_block ?_))))))))⟩⟩)))))))
        have H := H.nilRows (.int .u8) 5 42
        refine wc_loop (fun kk t w => ∃ (l354 : List (List (Int))) (x355 : Int) (v352 : Value) (us353 : List Sv) (t496 : Fr), kk ≤ k ∧ weave_Unweave.l0 kk a0 a1 a2 x19 l354 x355 = some r ∧ t = upds t496 [(0, .func (.yield b33) #[] #[]), (1, .pointer (some ⟨b30, 0, none⟩)), (2, .pointer (some ⟨b31, 0, none⟩)), (4, .int .i64 x355), (1000000, undef)] ∧ St no w0 w [.mks v36, .blk b1 #[.int .i64 a0.1, .int .i64 a0.2.1, .int .i64 a0.2.2] 23, .blk b2 #[.int .i64 a1] 3, .blk b3 #[.int .i64 a0.1, .int .i64 a0.2.1, .int .i64 a0.2.2, .int .i64 a1] 111, .blk b18 #[v352] 92, .blk b30 #[(.slice p27 n28 c29)] 42, .blk b31 #[.int .i64 x19] 3, .obj b33 (.loop o34), .rows (.int .u8) 5 42 v352 us353 l354]) k ?_ ?_
        · exact ⟨_, _, _, _, _, Nat.le_refl _, E, upds_eq ⟨rfl, rfl, rfl, rfl, rfl, trivial⟩, H⟩
        rintro kk t w ⟨l354, x355, v352, us353, t496, hk495, E, rfl, H⟩
        obtain ⟨k494, rfl⟩ | rfl : (∃ k', kk = k' + 1) ∨ kk = 0 := by cases kk; exact .inr rfl; exact .inl ⟨_, rfl⟩
        rotate_left
        · cases E
        rw [weave_Unweave.l0] at E
        refine wc_seq (rg (v_ rfl (mv (.int .i64 x355) rfl) (v_ rfl (r_load sc_42 rfl (blk_cell (H.get 5 rfl) rfl)) (v_ rfl (r_lenR ul_42 (H.rd h2) rfl) (v_ rfl (r_lss rfl rfl) (nl ?_))))))
        refine wc_cond rfl (fun c498 => ?_) (fun c498 => ?_)
        · have E := iT c498 E
          refine wc_skip (n_thn (wc_seq (wc_block (wc_seq (wc_drawnS (ds := []) mo H rfl rfl ?_)))))
          have H := H.drew
          refine wa_take (i := 0) (l' := #[true, false, false, false, false, false, false]) rfl rfl rfl (by kernel_rfl) H (fun w H => (r_load sc_3 rfl (blk_cell (H.get 6 rfl) rfl))) (wa_take (i := 1) (l' := #[true, true, false, false, false, false, false]) rfl rfl rfl (by kernel_rfl) H (fun w H => (r_load sc_42 rfl (blk_cell (H.get 5 rfl) rfl))) (wa_take (i := 2) (l' := #[true, true, true, false, false, false, false]) rfl rfl rfl (by kernel_rfl) H (fun w H => (mv (.int .i64 x355) rfl)) ?_))
          obtain ⟨⟨g499, g500⟩, E⟩ := grd_some E
          have p502 : x355.toNat ≤ a2.length := by omega
          have p503 : a2.length ≤ a2.length := by omega
          refine wa_take (i := 3) (l' := #[true, true, true, true, false, false, false]) rfl rfl rfl (by kernel_rfl) H (fun w H => (r_slcLR sl_42 (H.rd h2) rfl rfl g499 g500)) (wa_take (i := 4) (l' := #[true, true, true, true, true, false, false]) rfl rfl rfl (by kernel_rfl) H (fun w H => (r_lenR ul_42 (Rd.slv (H.rd h2) p502 p503) rfl)) (wa_take (i := 5) (l' := #[true, true, true, true, true, true, false]) rfl rfl rfl (by kernel_rfl) H (fun w H => (r_min rfl rfl)) (wa_take (i := 6) (l' := #[true, true, true, true, true, true, true]) rfl rfl rfl (by kernel_rfl) H (fun w H => (sg (.int .i64 (min2 x19 (((a2.take a2.length).drop x355.toNat).length : Int))) rfl)) (wa_done (by kernel_rfl) (n_thn (rg (v_ rfl (mv (.func (.yield b33) #[] #[]) rfl) (v_ rfl (r_load sc_42 rfl (blk_cell (H.get 5 rfl) rfl)) (v_ rfl (mv (.int .i64 x355) rfl) (v_ rfl (mv (.int .i64 x355) rfl) (v_ rfl (mv (.int .i64 (min2 x19 (((a2.take a2.length).drop x355.toNat).length : Int))) rfl) (v_ rfl (r_add rfl rfl) (v_ rfl (mv (.int .i64 x355) rfl) (v_ rfl (mv (.int .i64 (min2 x19 (((a2.take a2.length).drop x355.toNat).length : Int))) rfl) (v_ rfl (r_add rfl rfl) ?_)))))))))))))))
          obtain ⟨⟨g504, g505, g506, g507⟩, E⟩ := grd_some E
          have p508 : x355.toNat ≤ (IntKind.i64.wrap (x355 + (min2 x19 (((a2.take a2.length).drop x355.toNat).length : Int)))).toNat := by omega
          have p510 : (IntKind.i64.wrap (x355 + (min2 x19 (((a2.take a2.length).drop x355.toNat).length : Int)))).toNat ≤ (IntKind.i64.wrap (x355 + (min2 x19 (((a2.take a2.length).drop x355.toNat).length : Int)))).toNat := by omega
          have p509 : (IntKind.i64.wrap (x355 + (min2 x19 (((a2.take a2.length).drop x355.toNat).length : Int)))).toNat ≤ a2.length := by omega
          refine v_ rfl (r_slc3R sl_42 (H.rd h2) rfl rfl rfl rfl g504 g505 g506 g507) (e_ rfl (y_yld [(slv3 (.slice p27 n28 c29) x355.toNat ((IntKind.i64.wrap (x355 + (min2 x19 (((a2.take a2.length).drop x355.toNat).length : Int)))).toNat) ((IntKind.i64.wrap (x355 + (min2 x19 (((a2.take a2.length).drop x355.toNat).length : Int)))).toNat) 1)] rfl rfl H 7 rfl hO35 rfl rfl (wc_region (v_ rfl (sg ((slv3 (.slice p27 n28 c29) x355.toNat ((IntKind.i64.wrap (x355 + (min2 x19 (((a2.take a2.length).drop x355.toNat).length : Int)))).toNat) ((IntKind.i64.wrap (x355 + (min2 x19 (((a2.take a2.length).drop x355.toNat).length : Int)))).toNat) 1)) rfl) (wl_nil (yB H 7 rfl hO35 (fun w H => (wc_block (rg (v_ rfl (r_load sc_3 rfl (blk_cell (H.get 2 rfl) rfl)) (v_ rfl (mv (.int .i64 0) rfl) (nl (wc_block ?_)))))))))))))
          refine wc_loop (fun kk t w => ∃ (l552 : List (List (Int))) (x553 : Int) (v550 : Value) (us551 : List Sv) (t595 : Fr), kk ≤ k494 ∧ weave_Unweave.l1 kk a0 a1 a2 x19 x355 l552 x553 = some r ∧ t = upds t595 [(4, .pointer (some ⟨b2, 0, none⟩)), (8, .pointer (some ⟨b3, 0, none⟩)), (10, .pointer (some ⟨b18, 0, none⟩)), (11, (slv3 (.slice p27 n28 c29) x355.toNat ((IntKind.i64.wrap (x355 + (min2 x19 (((a2.take a2.length).drop x355.toNat).length : Int)))).toNat) ((IntKind.i64.wrap (x355 + (min2 x19 (((a2.take a2.length).drop x355.toNat).length : Int)))).toNat) 1)), (34, .int .i64 a1), (35, .int .i64 x553), (1000000, undef)] ∧ St no w0 w [.mks v36, .blk b1 #[.int .i64 a0.1, .int .i64 a0.2.1, .int .i64 a0.2.2] 23, .blk b2 #[.int .i64 a1] 3, .blk b3 #[.int .i64 a0.1, .int .i64 a0.2.1, .int .i64 a0.2.2, .int .i64 a1] 111, .blk b18 #[v550] 92, .blk b30 #[(.slice p27 n28 c29)] 42, .blk b31 #[.int .i64 x19] 3, .obj b33 (.loop (lpB o34)), .rows (.int .u8) 5 42 v550 us551 l552]) k494 ?_ ?_
          · exact ⟨_, _, _, _, _, Nat.le_refl _, E, upds_eq ⟨rfl, rfl, rfl, rfl, rfl, rfl, rfl, trivial⟩, H⟩
          rintro kk t w ⟨l552, x553, v550, us551, t595, hk594, E, rfl, H⟩
          obtain ⟨k593, rfl⟩ | rfl : (∃ k', kk = k' + 1) ∨ kk = 0 := by cases kk; exact .inr rfl; exact .inl ⟨_, rfl⟩
          rotate_left
          · cases E
          rw [weave_Unweave.l1] at E
          refine rg (v_ rfl (r_lss rfl rfl) (nl (wc_seq ?_)))
          refine wc_cond rfl (fun c597 => ?_) (fun c597 => ?_)
          · have E := iT c597 E
            refine wc_skip (n_thn (wc_seq (wc_block (rg (v_ rfl (mv (.int .i64 x553) rfl) (v_ rfl (sg (.int .i64 x553) rfl) (nl (rg (v_ rfl (r_faddr fa_111_0 rfl) (v_ rfl (r_faddr fa_23_0 rfl) (v_ rfl (r_load sc_3 rfl (blk_cell (H.get 3 rfl) rfl)) ?_)))))))))))
            obtain ⟨⟨g599, g600, g601⟩, E⟩ := grd_some E
            refine e_ rfl (y_make (e := (.int .u8)) (z0 := 0) sl_42 rfl H rfl rfl g599 g600 (by omega) (by omega) (fun v598 w H => (v_ rfl (sg v598 rfl) (nl (wc_seq (rg (v_ rfl (mv v598 rfl) (v_ rfl (r_lenR ul_42 (own_rd (H.get 9 rfl)) rfl) (v_ rfl (mv (.int .i64 0) rfl) (nl (wc_block ?_)))))))))))
            refine wc_loop (fun kk t w => ∃ (l608 : List (Int)) (x609 : Int) (t618 : Fr), kk ≤ k593 ∧ weave_Unweave.l2 kk a0 a1 a2 x19 x355 l552 x553 l608 x609 = some r ∧ t = upds t618 [(4, .pointer (some ⟨b2, 0, none⟩)), (8, .pointer (some ⟨b3, 0, none⟩)), (10, .pointer (some ⟨b18, 0, none⟩)), (11, (slv3 (.slice p27 n28 c29) x355.toNat ((IntKind.i64.wrap (x355 + (min2 x19 (((a2.take a2.length).drop x355.toNat).length : Int)))).toNat) ((IntKind.i64.wrap (x355 + (min2 x19 (((a2.take a2.length).drop x355.toNat).length : Int)))).toNat) 1)), (12, .int .i64 x553), (13, v598), (34, .int .i64 a1), (35, .int .i64 x553), (43, .int .i64 ((List.replicate a0.1.toNat (0 : Int)).length : Int)), (44, .int .i64 x609), (1000000, undef)] ∧ St no w0 w [.mks v36, .blk b1 #[.int .i64 a0.1, .int .i64 a0.2.1, .int .i64 a0.2.2] 23, .blk b2 #[.int .i64 a1] 3, .blk b3 #[.int .i64 a0.1, .int .i64 a0.2.1, .int .i64 a0.2.2, .int .i64 a1] 111, .blk b18 #[v550] 92, .blk b30 #[(.slice p27 n28 c29)] 42, .blk b31 #[.int .i64 x19] 3, .obj b33 (.loop (lpB o34)), .rows (.int .u8) 5 42 v550 us551 l552, .own (.int .u8) 5 v598 l608]) k593 ?_ ?_
            · exact ⟨_, _, _, Nat.le_refl _, E, upds_eq ⟨rfl, rfl, rfl, rfl, rfl, rfl, rfl, rfl, rfl, rfl, rfl, trivial⟩, H⟩
            rintro kk t w ⟨l608, x609, t618, hk617, E, rfl, H⟩
            obtain ⟨k616, rfl⟩ | rfl : (∃ k', kk = k' + 1) ∨ kk = 0 := by cases kk; exact .inr rfl; exact .inl ⟨_, rfl⟩
            rotate_left
            · cases E
            rw [weave_Unweave.l2] at E
            refine rg (v_ rfl (r_lss rfl rfl) (nl (wc_seq ?_)))
            refine wc_cond rfl (fun c620 => ?_) (fun c620 => ?_)
            · have E := iT c620 E
              refine wc_skip (n_thn (wc_seq (wc_block (rg (v_ rfl (mv (.int .i64 x609) rfl) (v_ rfl (sg (.int .i64 x609) rfl) (nl (wc_region (v_ rfl (mv v598 rfl) (v_ rfl (mv (.int .i64 x609) rfl) (v_ rfl (mv ((slv3 (.slice p27 n28 c29) x355.toNat ((IntKind.i64.wrap (x355 + (min2 x19 (((a2.take a2.length).drop x355.toNat).length : Int)))).toNat) ((IntKind.i64.wrap (x355 + (min2 x19 (((a2.take a2.length).drop x355.toNat).length : Int)))).toNat) 1)) rfl) (v_ rfl (mv (.int .i64 x609) rfl) (v_ rfl (r_load sc_3 rfl (blk_cell (H.get 2 rfl) rfl)) (v_ rfl (r_mul rfl rfl) (v_ rfl (mv (.int .i64 x553) rfl) (v_ rfl (r_add rfl rfl) ?_))))))))))))))))
              obtain ⟨⟨g621, g622⟩, E⟩ := grd_some E
              refine v_ rfl (r_idx sl_42 (Rd.slv3 (H.rd h2) p508 p510 p509) rfl rfl g621 g622) (v_ rfl (r_ldI sc_5 (Rd.slv3 (H.rd h2) p508 p510 p509) g621 g622 rfl) ?_)
              obtain ⟨⟨g623, g624⟩, E⟩ := grd_some E
              refine v_ rfl (r_idx sl_42 (own_rd (H.get 9 rfl)) rfl rfl g623 g624) (s_ (y_storeI sz_5 H 9 rfl g623 g624 rfl rfl (fun w H => (wl_nil (n_bk (n_thn (wc_region (v_ rfl (r_add rfl rfl) (v_ rfl (mv (.int .i64 (IntKind.i64.wrap (x609 + 1))) rfl) (wl_nil ?_))))))))))
              exact ⟨k616, Nat.lt_succ_self _, _, _, _, Nat.le_of_succ_le hk617, E, upds_eq ⟨rfl, rfl, rfl, rfl, rfl, rfl, rfl, rfl, rfl, rfl, rfl, trivial⟩, H⟩
            · have E := iF c620 E
              refine wc_exit (x_thn (x_thn (x_bk (n_thn (wc_region (v_ rfl (r_load sc_92 rfl (blk_cell (H.get 4 rfl) rfl)) (v_ rfl (mv v598 rfl) ?_)))))))
              obtain ⟨p625, n626, c627, rfl⟩ := own_form (H.get 9 rfl)
              refine e_ rfl (y_bsB (l := [(.slice p625 n626 c627)]) sl_92 H rfl (by decide) ⟨rfl, rfl, rfl, trivial⟩ (by decide) (fun b628 w H => ?_))
              obtain ⟨g631, E⟩ := grd_some E
              refine e_ rfl (y_appRow sl_92 H 8 9 rfl rfl rfl (lit_hdr (H.get 10 rfl)) rfl rfl g631 (by unfold maxLen; omega) (fun v629 us630 w H => ?_))
              obtain ⟨p632, n633, c634, rfl⟩ := own_form (H.get 8 rfl).1
              refine s_ (y_storeB sz_92 H 4 rfl rfl rfl rfl rfl (fun w H => (wl_nil (n_bk (n_thn (wc_region (v_ rfl (r_add rfl rfl) (v_ rfl (mv (.int .i64 (IntKind.i64.wrap (x553 + 1))) rfl) (wl_nil ?_)))))))))
              exact ⟨k616, by omega, _, _, _, _, _, by omega, E, upds_eq ⟨rfl, rfl, rfl, rfl, rfl, rfl, rfl, trivial⟩, H.sel [0, 1, 2, 3, 4, 5, 6, 7, 8] rfl rfl⟩
          · have E := iF c597 E
            refine wc_exit (x_thn (x_thn (x_bk (n_bk (yN H 7 rfl hO35 (fun w H => (v_ rfl (rv_eq (v' := .bool false) (r_not rfl) rfl) (nl (wc_condF rfl (wc_skip (n_bk (n_thn (wc_region (v_ rfl (mv (.int .i64 x355) rfl) (v_ rfl (r_load sc_3 rfl (blk_cell (H.get 6 rfl) rfl)) (v_ rfl (r_add rfl rfl) (v_ rfl (sg (.int .i64 (IntKind.i64.wrap (x355 + x19))) rfl) (wl_nil ?_))))))))))))))))))
            exact ⟨k593, by omega, _, _, _, _, _, by omega, E, upds_eq ⟨rfl, rfl, rfl, rfl, rfl, trivial⟩, H⟩
        · have E := iF c498 E
          refine wc_exit (x_thn (x_thn (x_bk (⟨.inr rfl, .tuple #[], tk0 rfl ⟨resM rfl rv_nil rfl, (el_n H 7 rfl hO35 (fun w H => (n_bk (n_thn (rg (v_ rfl (r_load sc_92 rfl (blk_cell (H.get 4 rfl) rfl)) (v_ rfl (sg v352 rfl) (v_ rfl (sg (.int .u16 0) rfl) (nl (wc_ret ?_))))))))))⟩⟩))))
          cases E
          exact ⟨.inl rfl, _, tkA H 0 rfl rfl (fun w H => ⟨resN rfl (rv_t (rv_t rv_nil)), _, _, rfl, H.sub1 8 rfl⟩)⟩
def weave_Spot.f (a0 : Int × Int × Int) (a1 : Int) (a2 : Int) : Option (Int × Int) := (weave_loom_right.f ((a0.1, a0.2.1, a0.2.2), a1)).bind fun x7 => bif !decide (x7 = 0) then (some (0, 0)) else (bif decide (a2 < 0) then (some (0, 0)) else ((weave_loom_sheaf.f ((a0.1, a0.2.1, a0.2.2), a1)).bind fun x11 => grd (decide (x11 ≠ 0)) ((weave_loom_sheaf.f ((a0.1, a0.2.1, a0.2.2), a1)).bind fun x14 => grd (decide (x14 ≠ 0)) (grd (decide (a1 ≠ 0)) (grd (decide (a1 ≠ 0)) (some (IntKind.i64.wrap ((IntKind.i64.wrap ((IntKind.i64.wrap (Int.tdiv a2 x11)) * a1)) + (Int.tmod (Int.tmod a2 x14) a1)), IntKind.i64.wrap (Int.tdiv (Int.tmod a2 x14) a1))))))))
set_option maxRecDepth 100000 in
set_option maxHeartbeats 4000000 in
theorem weave_Spot.calls {w0 : World} {a0 : Int × Int × Int} {a1 : Int} {a2 : Int} {r : Int × Int}  (E : weave_Spot.f a0 a1 a2 = some r) :
    Calls Try.prog 52 #[.agg #[.int .i64 a0.1, .int .i64 a0.2.1, .int .i64 a0.2.2], .int .i64 a1, .int .i64 a2] w0 fun e w' => e = .returned (.tuple #[.int .i64 r.1, .int .i64 r.2]) ∧ St no w0 w' [] := by
  have H := St.nil no w0
  unfold weave_Spot.f at E
  refine calls_of_wc (N := 39) (args := [.agg #[.int .i64 a0.1, .int .i64 a0.2.1, .int .i64 a0.2.2], .int .i64 a1, .int .i64 a2]) Try.func52 rfl rfl (by simp) ?_
  refine rg (e_ rfl (y_boxS (cs := #[.int .i64 a0.1, .int .i64 a0.2.1, .int .i64 a0.2.2]) H rfl (fun b1 w H => (v_ rfl (sg (.int .i64 0) rfl) (v_ rfl (sg (.int .i64 0) rfl) (nl (rg (v_ rfl (r_loadB (l := [.int .i64 a0.1, .int .i64 a0.2.1, .int .i64 a0.2.2]) ag_23 (H.get 0 rfl) rfl rfl rfl) (v_ rfl (mv (.int .i64 a1) rfl) (v_ rfl (r_build (cs := [.int .i64 a0.1, .int .i64 a0.2.1, .int .i64 a0.2.2, .int .i64 a1]) bd_111 rfl) (e_ rfl (y_allocS zr_111 H (fun b2 w H => (s_ (y_storeBA sz_111 H 1 rfl rfl rfl rfl rfl rfl (fun w H => (nl (wc_seq (rg (v_ rfl (r_loadB (l := [.int .i64 a0.1, .int .i64 a0.2.1, .int .i64 a0.2.2, .int .i64 a1]) ag_111 (H.get 1 rfl) rfl rfl rfl) ?_))))))))))))))))))))
  obtain ⟨x7, E8, E⟩ := bind_some E
  refine e_ rfl (y_callL en_66 rfl ((weave_loom_right.calls E8).mono ?_))
  rintro _ w ⟨rfl, K⟩
  have H := H.app K
  refine ⟨_, rfl, (v_ rfl (r_neq rfl rfl) (v_ rfl (mv (.bool (!decide (x7 = 0))) rfl) ?_))⟩
  rcases Bool.eq_false_or_eq_true (!decide (x7 = 0)) with c9 | c9
  · have E := iT c9 E
    refine off_ c9 rfl rfl rfl (off_ c9 rfl rfl rfl (v_ rfl (pT (.bool true) rfl rfl c9) (nl (wc_condT rfl (rg (v_ rfl (sg (.int .i64 0) rfl) (v_ rfl (sg (.int .i64 0) rfl) (nl (wc_ret ?_)))))))))
    cases E
    exact (r_thn ⟨.inl rfl, _, tk0 rfl ⟨resN rfl (rv_t (rv_t rv_nil)), rfl, H.sub0⟩⟩)
  · have E := iF c9 E
    refine on_ c9 rfl rfl (mv (.int .i64 a2) rfl) (on_ c9 rfl rfl (r_lss rfl rfl) (v_ rfl (pF (.bool (decide (a2 < 0))) rfl rfl c9) (nl ?_)))
    refine wc_cond rfl (fun c10 => ?_) (fun c10 => ?_)
    · have E := iT c10 E
      refine rg (v_ rfl (sg (.int .i64 0) rfl) (v_ rfl (sg (.int .i64 0) rfl) (nl (wc_ret ?_))))
      cases E
      exact (r_thn ⟨.inl rfl, _, tk0 rfl ⟨resN rfl (rv_t (rv_t rv_nil)), rfl, H.sub0⟩⟩)
    · have E := iF c10 E
      refine wc_skip (n_thn (wc_seq (wc_drawnS (ds := []) mo H rfl rfl ?_)))
      have H := H.drew
      refine wa_take (i := 0) (l' := #[true, false, false, false, false, false, false, false, false, false]) rfl rfl rfl (by kernel_rfl) H (fun w H => (mv (.int .i64 a2) rfl)) (wa_take (i := 1) (l' := #[true, true, false, false, false, false, false, false, false, false]) rfl rfl rfl (by kernel_rfl) H (fun w H => (r_loadB (l := [.int .i64 a0.1, .int .i64 a0.2.1, .int .i64 a0.2.2, .int .i64 a1]) ag_111 (H.get 1 rfl) rfl rfl rfl)) (wa_take (i := 4) (l' := #[true, true, false, false, true, false, false, false, false, false]) rfl rfl rfl (by kernel_rfl) H (fun w H => (mv (.int .i64 a2) rfl)) (wa_take (i := 5) (l' := #[true, true, false, false, true, true, false, false, false, false]) rfl rfl rfl (by kernel_rfl) H (fun w H => (r_loadB (l := [.int .i64 a0.1, .int .i64 a0.2.1, .int .i64 a0.2.2, .int .i64 a1]) ag_111 (H.get 1 rfl) rfl rfl rfl)) ?_)))
      obtain ⟨x11, E12, E⟩ := bind_some E
      refine wa_one (i := 2) (l' := #[true, true, true, false, true, true, false, false, false, false]) rfl rfl rfl (by kernel_rfl) (y_callL en_67 rfl ((weave_loom_sheaf.calls E12).mono ?_))
      rintro _ w ⟨rfl, K⟩
      have H := H.app K
      refine ⟨_, rfl, ⟨fun _ => H.sel [0, 1] rfl rfl, ?_⟩⟩
      have H : St no w0 w [.blk b1 #[.int .i64 a0.1, .int .i64 a0.2.1, .int .i64 a0.2.2] 23, .blk b2 #[.int .i64 a0.1, .int .i64 a0.2.1, .int .i64 a0.2.2, .int .i64 a1] 111] := H
      obtain ⟨g13, E⟩ := grd_some E
      refine wa_take (i := 3) (l' := #[true, true, true, true, true, true, false, false, false, false]) rfl rfl rfl (by kernel_rfl) (H.sel [0, 1] rfl rfl) (fun w H => (r_quo rfl rfl g13)) ?_
      obtain ⟨x14, E15, E⟩ := bind_some E
      refine wa_one (i := 6) (l' := #[true, true, true, true, true, true, true, false, false, false]) rfl rfl rfl (by kernel_rfl) (y_callL en_67 rfl ((weave_loom_sheaf.calls E15).mono ?_))
      rintro _ w ⟨rfl, K⟩
      have H := H.app K
      refine ⟨_, rfl, ⟨fun _ => H.sel [0, 1] rfl rfl, ?_⟩⟩
      obtain ⟨g16, E⟩ := grd_some E
      refine wa_take (i := 7) (l' := #[true, true, true, true, true, true, true, true, false, false]) rfl rfl rfl (by kernel_rfl) (H.sel [0, 1] rfl rfl) (fun w H => (r_rem rfl rfl g16)) (wa_take (i := 8) (l' := #[true, true, true, true, true, true, true, true, true, false]) rfl rfl rfl (by kernel_rfl) (H.sel [0, 1] rfl rfl) (fun w H => (sg (.int .i64 (IntKind.i64.wrap (Int.tdiv a2 x11))) rfl)) (wa_take (i := 9) (l' := #[true, true, true, true, true, true, true, true, true, true]) rfl rfl rfl (by kernel_rfl) (H.sel [0, 1] rfl rfl) (fun w H => (sg (.int .i64 (Int.tmod a2 x14)) rfl)) (wa_done (by kernel_rfl) (n_thn (wc_seq (wc_drawnS (ds := []) mo H rfl rfl ?_))))))
      have H := H.drew
      refine wa_take (i := 0) (l' := #[true, false, false, false, false, false, false, false, false, false, false, false]) rfl rfl rfl (by kernel_rfl) H (fun w H => (mv (.int .i64 (IntKind.i64.wrap (Int.tdiv a2 x11))) rfl)) (wa_take (i := 1) (l' := #[true, true, false, false, false, false, false, false, false, false, false, false]) rfl rfl rfl (by kernel_rfl) H (fun w H => (mv (.int .i64 a1) rfl)) (wa_take (i := 2) (l' := #[true, true, true, false, false, false, false, false, false, false, false, false]) rfl rfl rfl (by kernel_rfl) H (fun w H => (r_mul rfl rfl)) (wa_take (i := 3) (l' := #[true, true, true, true, false, false, false, false, false, false, false, false]) rfl rfl rfl (by kernel_rfl) H (fun w H => (mv (.int .i64 (Int.tmod a2 x14)) rfl)) (wa_take (i := 4) (l' := #[true, true, true, true, true, false, false, false, false, false, false, false]) rfl rfl rfl (by kernel_rfl) H (fun w H => (mv (.int .i64 a1) rfl)) ?_))))
      obtain ⟨g17, E⟩ := grd_some E
      refine wa_take (i := 5) (l' := #[true, true, true, true, true, true, false, false, false, false, false, false]) rfl rfl rfl (by kernel_rfl) H (fun w H => (r_rem rfl rfl g17)) (wa_take (i := 6) (l' := #[true, true, true, true, true, true, true, false, false, false, false, false]) rfl rfl rfl (by kernel_rfl) H (fun w H => (r_add rfl rfl)) (wa_take (i := 7) (l' := #[true, true, true, true, true, true, true, true, false, false, false, false]) rfl rfl rfl (by kernel_rfl) H (fun w H => (mv (.int .i64 (Int.tmod a2 x14)) rfl)) (wa_take (i := 8) (l' := #[true, true, true, true, true, true, true, true, true, false, false, false]) rfl rfl rfl (by kernel_rfl) H (fun w H => (mv (.int .i64 a1) rfl)) ?_)))
      obtain ⟨g18, E⟩ := grd_some E
      refine wa_take (i := 9) (l' := #[true, true, true, true, true, true, true, true, true, true, false, false]) rfl rfl rfl (by kernel_rfl) H (fun w H => (r_quo rfl rfl g18)) (wa_take (i := 10) (l' := #[true, true, true, true, true, true, true, true, true, true, true, false]) rfl rfl rfl (by kernel_rfl) H (fun w H => (sg (.int .i64 (IntKind.i64.wrap ((IntKind.i64.wrap ((IntKind.i64.wrap (Int.tdiv a2 x11)) * a1)) + (Int.tmod (Int.tmod a2 x14) a1)))) rfl)) (wa_take (i := 11) (l' := #[true, true, true, true, true, true, true, true, true, true, true, true]) rfl rfl rfl (by kernel_rfl) H (fun w H => (sg (.int .i64 (IntKind.i64.wrap (Int.tdiv (Int.tmod a2 x14) a1))) rfl)) (wa_done (by kernel_rfl) (n_thn (wc_ret ?_)))))
      cases E
      exact ⟨.inl rfl, _, tk0 rfl ⟨resN rfl (rv_t (rv_t rv_nil)), rfl, H.sub0⟩⟩
def slices_Index.l0 : Nat → List Int → Int → Int → Option (Int)
  | 0, _, _, _ => none
  | k + 1, a0, a1, x6 => bif decide (x6 < (a0.length : Int)) then (grd (decide ((0 : Int) ≤ x6 ∧ x6 < (a0.length : Int))) (bif decide (a1 = at_ 0 a0 x6) then (some x6) else (slices_Index.l0 k a0 a1 (IntKind.i64.wrap (x6 + 1))))) else (some (-1))
def slices_Index.f (k : Nat) (a0 : List Int) (a1 : Int) : Option (Int) := slices_Index.l0 k a0 a1 0
set_option maxRecDepth 100000 in
set_option maxHeartbeats 4000000 in
theorem slices_Index.calls {w0 : World} {k : Nat} {a0 : List Int} {a1 : Int} {v0_ : Value} {r : Int} (h0 : Rd (.of (.int .i64)) w0 (Ol no w0) v0_ a0) (E : slices_Index.f k a0 a1 = some r) :
    Calls Try.prog 69 #[v0_, .int .i64 a1] w0 fun e w' => e = .returned (.int .i64 r) ∧ St no w0 w' [] := by
  have H := St.nil no w0
  unfold slices_Index.f at E
  refine calls_of_wc (N := 19) (args := [v0_, .int .i64 a1]) Try.func69 rfl rfl (by simp) ?_
  refine rg (v_ rfl (sg (.int .i64 0) rfl) (nl (wc_seq (rg (v_ rfl (mv v0_ rfl) (v_ rfl (r_lenR ul_44 (H.rd h0) rfl) (v_ rfl (mv (.int .i64 0) rfl) (nl (wc_block ?_)))))))))
  refine wc_loop (fun kk t w => ∃ (x6 : Int) (t14 : Fr), kk ≤ k ∧ slices_Index.l0 kk a0 a1 x6 = some r ∧ t = upds t14 [(0, v0_), (1, .int .i64 a1), (4, .int .i64 0), (7, .int .i64 (a0.length : Int)), (8, .int .i64 x6), (1000000, undef)] ∧ St no w0 w []) k ?_ ?_
  · exact ⟨_, _, Nat.le_refl _, E, upds_eq ⟨rfl, rfl, rfl, rfl, rfl, rfl, trivial⟩, H⟩
  rintro kk t w ⟨x6, t14, hk13, E, rfl, H⟩
  obtain ⟨k12, rfl⟩ | rfl : (∃ k', kk = k' + 1) ∨ kk = 0 := by cases kk; exact .inr rfl; exact .inl ⟨_, rfl⟩
  rotate_left
  · cases E
  rw [slices_Index.l0] at E
  refine rg (v_ rfl (r_lss rfl rfl) (nl (wc_seq ?_)))
  refine wc_cond rfl (fun c16 => ?_) (fun c16 => ?_)
  · have E := iT c16 E
    refine wc_skip (n_thn (wc_seq (wc_block (rg (v_ rfl (mv (.int .i64 x6) rfl) (v_ rfl (sg (.int .i64 x6) rfl) (nl (rg (v_ rfl (mv (.int .i64 a1) rfl) (v_ rfl (mv v0_ rfl) (v_ rfl (mv (.int .i64 x6) rfl) ?_)))))))))))
    obtain ⟨⟨g17, g18⟩, E⟩ := grd_some E
    refine v_ rfl (r_idx sl_44 (H.rd h0) rfl rfl g17 g18) (v_ rfl (r_ldI sc_3 (H.rd h0) g17 g18 rfl) (v_ rfl (r_eql rfl rfl) (nl ?_)))
    refine wc_cond rfl (fun c19 => ?_) (fun c19 => ?_)
    · have E := iT c19 E
      refine rg (v_ rfl (mv (.int .i64 x6) rfl) (v_ rfl (sg (.int .i64 x6) rfl) (nl (wc_ret ?_))))
      cases E
      exact (r_bk (r_thn (r_thn (r_bk (r_thn ⟨.inl rfl, _, tk0 rfl ⟨resN rfl (rv_t rv_nil), rfl, H.sub0⟩⟩)))))
    · have E := iF c19 E
      refine wc_skip (n_bk (n_thn (wc_region (v_ rfl (r_add rfl rfl) (v_ rfl (mv (.int .i64 (IntKind.i64.wrap (x6 + 1))) rfl) (wl_nil ?_))))))
      exact ⟨k12, Nat.lt_succ_self _, _, _, Nat.le_of_succ_le hk13, E, upds_eq ⟨rfl, rfl, rfl, rfl, rfl, rfl, trivial⟩, H⟩
  · have E := iF c16 E
    refine wc_exit (x_thn (x_thn (x_bk (n_thn (rg (v_ rfl (sg (.int .i64 (-1)) rfl) (nl (wc_ret ?_))))))))
    cases E
    exact ⟨.inl rfl, _, tk0 rfl ⟨resN rfl (rv_t rv_nil), rfl, H.sub0⟩⟩
def slices_Contains.f (k : Nat) (a0 : List Int) (a1 : Int) : Option (Bool) := (slices_Index.f k a0 a1).bind fun x1 => some (decide (0 ≤ x1))
set_option maxRecDepth 100000 in
set_option maxHeartbeats 4000000 in
theorem slices_Contains.calls {w0 : World} {k : Nat} {a0 : List Int} {a1 : Int} {v0_ : Value} {r : Bool} (h0 : Rd (.of (.int .i64)) w0 (Ol no w0) v0_ a0) (E : slices_Contains.f k a0 a1 = some r) :
    Calls Try.prog 53 #[v0_, .int .i64 a1] w0 fun e w' => e = .returned (.bool r) ∧ St no w0 w' [] := by
  have H := St.nil no w0
  unfold slices_Contains.f at E
  refine calls_of_wc (N := 9) (args := [v0_, .int .i64 a1]) Try.func53 rfl rfl (by simp) ?_
  refine rg (v_ rfl (sg (.bool false) rfl) (nl (rg (v_ rfl (mv v0_ rfl) (v_ rfl (mv (.int .i64 a1) rfl) ?_)))))
  obtain ⟨x1, E2, E⟩ := bind_some E
  refine e_ rfl (y_callL en_69 rfl ((slices_Index.calls (H.arg (H.rd h0)) E2).mono ?_))
  rintro _ w ⟨rfl, K⟩
  have H := H.app K
  refine ⟨_, rfl, (v_ rfl (r_geq rfl rfl) (v_ rfl (sg (.bool (decide (0 ≤ x1))) rfl) (nl (wc_ret ?_))))⟩
  cases E
  exact ⟨.inl rfl, _, tk0 rfl ⟨resN rfl (rv_t rv_nil), rfl, H.sub0⟩⟩
end Go.Proofs.Ythfhhnlnlcbckaa.Gw
