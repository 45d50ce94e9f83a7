/- What these functions compute, and that they do: noise_Tally, ref12_Place. -/
/- Printed by a program of this project. -/
import Derived.Test.YthfhhnlnlcbckaaQ0
import Derived.Test.YthfhhnlnlcbckaaQg7
namespace Go.Proofs.Ythfhhnlnlcbckaa.Gw
open Go Go.RowKit
set_option linter.unusedVariables false
set_option linter.unusedSimpArgs false
def noise_Tally.j0 (l1r : (Int × Int × Int) → Int → List Int → List Int → List Int → List (List (Int)) → Int → Option (List (List Int) × Bool)) (k : Nat) (a0 : Int × Int × Int) (a1 : Int) (a2 : List Int) (a3 : List Int) (a4 : List Int) (l64 : List (List (Int))) : Option (List (List Int) × Bool) := grd (decide ((0 : Int) ≤ 10 ∧ 10 ≤ (a2.length : Int))) (l1r a0 a1 a2 a3 a4 l64 0)
mutual
def noise_Tally.l0 : Nat → (Int × Int × Int) → Int → List Int → List Int → List Int → (List (List Int) × Int) → List (List (Int)) → Int → Option (List (List Int) × Bool)
  | 0, _, _, _, _, _, _, _, _ => none
  | k + 1, a0, a1, a2, a3, a4, x11, l81, x82 => bif decide (x82 < ((List.replicate (x11.1.length : Int).toNat ([] : List (Int))).length : Int)) then (grd (decide ((0 : Int) ≤ 2 ∧ (2 : Int) ≤ 2 ∧ 8 * (2 : Int) ≤ 140737488355328)) (grd (decide ((0 : Int) ≤ x82 ∧ x82 < (l81.length : Int))) (noise_Tally.l0 k a0 a1 a2 a3 a4 x11 (l81.set x82.toNat (List.replicate (2 : Int).toNat (0 : Int))) (IntKind.i64.wrap (x82 + 1))))) else (noise_Tally.j0 (noise_Tally.l1 k) k a0 a1 a2 a3 a4 l81)
def noise_Tally.l1 : Nat → (Int × Int × Int) → Int → List Int → List Int → List Int → List (List (Int)) → Int → Option (List (List Int) × Bool)
  | 0, _, _, _, _, _, _, _ => none
  | k + 1, a0, a1, a2, a3, a4, l137, x138 => bif decide (x138 < (((a2.take a2.length).drop ((10 : Int).toNat)).length : Int)) then ((weave_Spot.f (a0.1, a0.2.1, a0.2.2) a1 x138).bind fun x168 => (slices_Contains.f k a4 (IntKind.i64.wrap (x138 + 10))).bind fun x170 => bif x170 then (grd (decide ((0 : Int) ≤ x168.1 ∧ x168.1 < (l137.length : Int))) (grd (decide ((0 : Int) ≤ 1 ∧ 1 < ((at_ [] l137 x168.1).length : Int))) (grd (decide ((0 : Int) ≤ 1 ∧ 1 < ((at_ [] l137 x168.1).length : Int))) (noise_Tally.l1 k a0 a1 a2 a3 a4 (l137.set x168.1.toNat ((at_ [] l137 x168.1).set (1 : Int).toNat (IntKind.i64.wrap ((at_ 0 (at_ [] l137 x168.1) 1) + 1)))) (IntKind.i64.wrap (x138 + 1)))))) else (grd (decide ((0 : Int) ≤ IntKind.i64.wrap (x138 + 10) ∧ IntKind.i64.wrap (x138 + 10) < (a2.length : Int))) (grd (decide ((0 : Int) ≤ IntKind.i64.wrap (x138 + 10) ∧ IntKind.i64.wrap (x138 + 10) < (a3.length : Int))) (bif !decide (at_ 0 a2 (IntKind.i64.wrap (x138 + 10)) = at_ 0 a3 (IntKind.i64.wrap (x138 + 10))) then (grd (decide ((0 : Int) ≤ x168.1 ∧ x168.1 < (l137.length : Int))) (grd (decide ((0 : Int) ≤ 0 ∧ 0 < ((at_ [] l137 x168.1).length : Int))) (grd (decide ((0 : Int) ≤ 0 ∧ 0 < ((at_ [] l137 x168.1).length : Int))) (noise_Tally.l1 k a0 a1 a2 a3 a4 (l137.set x168.1.toNat ((at_ [] l137 x168.1).set (0 : Int).toNat (IntKind.i64.wrap ((at_ 0 (at_ [] l137 x168.1) 0) + 1)))) (IntKind.i64.wrap (x138 + 1)))))) else (noise_Tally.l1 k a0 a1 a2 a3 a4 l137 (IntKind.i64.wrap (x138 + 1))))))) else (some (l137, true))
end
def noise_Tally.f (k : Nat) (a0 : Int × Int × Int) (a1 : Int) (a2 : List Int) (a3 : List Int) (a4 : List Int) : Option (List (List Int) × Bool) := bif !decide ((a2.length : Int) = (a3.length : Int)) then (some (([] : List (List (Int))), false)) else (bif decide ((a2.length : Int) < 10) then (some (([] : List (List (Int))), false)) else (grd (decide ((0 : Int) ≤ 10 ∧ 10 ≤ (a2.length : Int))) ((weave_Unweave.f k (a0.1, a0.2.1, a0.2.2) a1 ((a2.take a2.length).drop ((10 : Int).toNat))).bind fun x11 => bif !decide (x11.2 = 0) then (some (([] : List (List (Int))), false)) else (grd (decide ((0 : Int) ≤ (x11.1.length : Int) ∧ (x11.1.length : Int) ≤ (x11.1.length : Int) ∧ 24 * (x11.1.length : Int) ≤ 140737488355328)) (noise_Tally.l0 k a0 a1 a2 a3 a4 x11 (List.replicate (x11.1.length : Int).toNat ([] : List (Int))) 0)))))
set_option maxRecDepth 100000 in
set_option maxHeartbeats 4000000 in
theorem noise_Tally.calls {w0 : World} {k : Nat} {a0 : Int × Int × Int} {a1 : Int} {a2 : List Int} {a3 : List Int} {a4 : List Int} {v2_ : Value} {v3_ : Value} {v4_ : Value} {r : List (List Int) × Bool} (h2 : Rd (.of (.int .u8)) w0 (Ol no w0) v2_ a2) (h3 : Rd (.of (.int .u8)) w0 (Ol no w0) v3_ a3) (h4 : Rd (.of (.int .i64)) w0 (Ol no w0) v4_ a4) (E : noise_Tally.f k a0 a1 a2 a3 a4 = some r) :
    Calls Try.prog 28 #[.agg #[.int .i64 a0.1, .int .i64 a0.2.1, .int .i64 a0.2.2], .int .i64 a1, v2_, v3_, v4_] w0 fun e w' => ∃ (u0 : Value) (us0 : List Sv), e = .returned (.tuple #[u0, .bool r.2]) ∧ St no w0 w' [.rows (.int .i64) 3 44 u0 us0 r.1] := by
  have H := St.nil no w0
  unfold noise_Tally.f at E
  refine calls_of_wc (N := 99) (args := [.agg #[.int .i64 a0.1, .int .i64 a0.2.1, .int .i64 a0.2.2], .int .i64 a1, v2_, v3_, v4_]) Try.func28 rfl rfl (by simp) ?_
  refine rg (e_ rfl (y_boxS (cs := #[.int .i64 a0.1, .int .i64 a0.2.1, .int .i64 a0.2.2]) H rfl (fun b1 w H => (v_ rfl (sg (.slice none 0 0) rfl) (v_ rfl (sg (.bool false) rfl) (nl (wc_seq (rg (v_ rfl (mv v2_ rfl) (v_ rfl (r_lenR ul_42 (H.rd h2) rfl) (v_ rfl (mv v3_ rfl) (v_ rfl (r_lenR ul_42 (H.rd h3) rfl) (v_ rfl (r_neq rfl rfl) (v_ rfl (mv (.bool (!decide ((a2.length : Int) = (a3.length : Int)))) rfl) ?_))))))))))))))
  rcases Bool.eq_false_or_eq_true (!decide ((a2.length : Int) = (a3.length : Int))) with c4 | c4
  · have E := iT c4 E
    refine off_ c4 rfl rfl rfl (off_ c4 rfl rfl rfl (off_ c4 rfl rfl rfl (v_ rfl (pT (.bool true) rfl rfl c4) (nl (wc_condT rfl (rg (v_ rfl (sg (.slice none 0 0) rfl) (v_ rfl (sg (.bool false) rfl) (nl (wc_ret ?_))))))))))
    have H := H.nilRows (.int .i64) 3 44
    cases E
    exact (r_thn ⟨.inl rfl, _, tk0 rfl ⟨resN rfl (rv_t (rv_t rv_nil)), _, _, rfl, H.sub1 1 rfl⟩⟩)
  · have E := iF c4 E
    refine on_ c4 rfl rfl (mv v2_ rfl) (on_ c4 rfl rfl (r_lenR ul_42 (H.rd h2) rfl) (on_ c4 rfl rfl (r_lss rfl rfl) (v_ rfl (pF (.bool (decide ((a2.length : Int) < 10))) rfl rfl c4) (nl ?_))))
    refine wc_cond rfl (fun c5 => ?_) (fun c5 => ?_)
    · have E := iT c5 E
      refine rg (v_ rfl (sg (.slice none 0 0) rfl) (v_ rfl (sg (.bool false) rfl) (nl (wc_ret ?_))))
      have H := H.nilRows (.int .i64) 3 44
      cases E
      exact (r_thn ⟨.inl rfl, _, tk0 rfl ⟨resN rfl (rv_t (rv_t rv_nil)), _, _, rfl, H.sub1 1 rfl⟩⟩)
    · have E := iF c5 E
      refine wc_skip (n_thn (wc_seq (wc_drawnS (ds := []) mo H rfl rfl ?_)))
      have H := H.drew
      refine wa_take (i := 0) (l' := #[true, false, false, false, false, false, false, false, false, false]) rfl rfl rfl (by kernel_rfl) H (fun w H => (r_loadB (l := [.int .i64 a0.1, .int .i64 a0.2.1, .int .i64 a0.2.2]) ag_23 (H.get 0 rfl) rfl rfl rfl)) (wa_take (i := 1) (l' := #[true, true, false, false, false, false, false, false, false, false]) rfl rfl rfl (by kernel_rfl) H (fun w H => (mv (.int .i64 a1) rfl)) (wa_take (i := 2) (l' := #[true, true, true, false, false, false, false, false, false, false]) rfl rfl rfl (by kernel_rfl) H (fun w H => (mv v2_ rfl)) ?_))
      obtain ⟨⟨g6, g7⟩, E⟩ := grd_some E
      have p9 : (10 : Int).toNat ≤ a2.length := by omega
      have p10 : a2.length ≤ a2.length := by omega
      refine wa_take (i := 3) (l' := #[true, true, true, true, false, false, false, false, false, false]) rfl rfl rfl (by kernel_rfl) H (fun w H => (r_slcLR sl_42 (H.rd h2) rfl rfl g6 g7)) ?_
      obtain ⟨x11, E12, E⟩ := bind_some E
      refine wa_one (i := 4) (l' := #[true, true, true, true, true, false, false, false, false, false]) rfl rfl rfl (by kernel_rfl) (y_callL en_51 rfl ((weave_Unweave.calls (H.arg (Rd.slv (H.rd h2) p9 p10)) E12).mono ?_))
      rintro _ w ⟨v13, us14, rfl, K⟩
      have H := H.app K
      refine ⟨_, rfl, ⟨fun _ => H.sel [0] rfl rfl, (wa_take (i := 5) (l' := #[true, true, true, true, true, true, false, false, false, false]) rfl rfl rfl (by kernel_rfl) (H.sel [0] rfl rfl) (fun w H => (r_move)) (wa_take (i := 6) (l' := #[true, true, true, true, true, true, true, false, false, false]) rfl rfl rfl (by kernel_rfl) (H.sel [0] rfl rfl) (fun w H => (r_extract rfl rfl)) (wa_take (i := 7) (l' := #[true, true, true, true, true, true, true, true, false, false]) rfl rfl rfl (by kernel_rfl) (H.sel [0] rfl rfl) (fun w H => (r_extract rfl rfl)) (wa_oneV (i := 8) (l' := #[true, true, true, true, true, true, true, true, true, false]) rfl rfl rfl (by kernel_rfl) ((H.sel [0] rfl rfl)) (sg v13 rfl) (wa_take (i := 9) (l' := #[true, true, true, true, true, true, true, true, true, true]) rfl rfl rfl (by kernel_rfl) (H.sel [0] rfl rfl) (fun w H => (sg (.int .u16 x11.2) rfl)) (wa_done (by kernel_rfl) (n_thn (wc_seq (rg (v_ rfl (mv (.int .u16 x11.2) rfl) (v_ rfl (r_neq rfl rfl) (nl ?_))))))))))))⟩⟩
      refine wc_cond rfl (fun c16 => ?_) (fun c16 => ?_)
      · have E := iT c16 E
        refine rg (v_ rfl (sg (.slice none 0 0) rfl) (v_ rfl (sg (.bool false) rfl) (nl (wc_ret ?_))))
        have H := H.nilRows (.int .i64) 3 44
        cases E
        exact (r_thn ⟨.inl rfl, _, tk0 rfl ⟨resN rfl (rv_t (rv_t rv_nil)), _, _, rfl, H.sub1 2 rfl⟩⟩)
      · have E := iF c16 E
        refine wc_skip (n_thn (rg (v_ rfl (mv v13 rfl) (v_ rfl (r_lenR ul_92 (rows_rd (H.get 1 rfl)) rfl) ?_))))
        obtain ⟨⟨g19, g20, g21⟩, E⟩ := grd_some E
        refine e_ rfl (y_mkRows (.int .i64) 3 sl_53 H rfl rfl g19 g20 (by omega) (by omega) (fun v17 us18 w H => (v_ rfl (sg v17 rfl) (nl ?_))))
        refine wc_seqJ (fun t w => ∃ (k66 : Nat) (l64 : List (List (Int))) (v62 : Value) (us63 : List Sv) (t65 : Fr), k66 ≤ k ∧ noise_Tally.j0 (noise_Tally.l1 k66) k66 a0 a1 a2 a3 a4 l64 = some r ∧ t = upds t65 [(1, .int .i64 a1), (2, v2_), (3, v3_), (4, v4_), (5, .pointer (some ⟨b1, 0, none⟩)), (10, .slice none 0 0), (11, .bool false), (14, v62), (1000000, undef)] ∧ St no w0 w [.blk b1 #[.int .i64 a0.1, .int .i64 a0.2.1, .int .i64 a0.2.2] 23, .rows (.int .u8) 5 42 v13 us14 x11.1, .rows (.int .i64) 3 44 v62 us63 l64]) ?_ ?_
        · refine rg (v_ rfl (mv v17 rfl) (v_ rfl (r_lenR ul_53 (rows_rd (H.get 2 rfl)) rfl) (v_ rfl (mv (.int .i64 0) rfl) (nl (wc_block ?_)))))
          refine wc_loop (fun kk t w => ∃ (l81 : List (List (Int))) (x82 : Int) (v79 : Value) (us80 : List Sv) (t96 : Fr), kk ≤ k ∧ noise_Tally.l0 kk a0 a1 a2 a3 a4 x11 l81 x82 = some r ∧ t = upds t96 [(1, .int .i64 a1), (2, v2_), (3, v3_), (4, v4_), (5, .pointer (some ⟨b1, 0, none⟩)), (10, .slice none 0 0), (11, .bool false), (14, v79), (43, .int .i64 (((List.replicate (x11.1.length : Int).toNat ([] : List (Int))).length : Int))), (44, .int .i64 x82), (1000000, undef)] ∧ St no w0 w [.blk b1 #[.int .i64 a0.1, .int .i64 a0.2.1, .int .i64 a0.2.2] 23, .rows (.int .u8) 5 42 v13 us14 x11.1, .rows (.int .i64) 3 44 v79 us80 l81]) k ?_ ?_
          · exact ⟨_, _, _, _, _, Nat.le_refl _, E, upds_eq ⟨rfl, rfl, rfl, rfl, rfl, rfl, rfl, rfl, rfl, rfl, rfl, trivial⟩, H⟩
          rintro kk t w ⟨l81, x82, v79, us80, t96, hk95, E, rfl, H⟩
          obtain ⟨k94, rfl⟩ | rfl : (∃ k', kk = k' + 1) ∨ kk = 0 := by cases kk; exact .inr rfl; exact .inl ⟨_, rfl⟩
          rotate_left
          · cases E
          rw [noise_Tally.l0] at E
          refine rg (v_ rfl (r_lss rfl rfl) (nl (wc_seq ?_)))
          refine wc_cond rfl (fun c97 => ?_) (fun c97 => ?_)
          · have E := iT c97 E
            refine wc_skip (n_thn (wc_seq (wc_block (rg (v_ rfl (mv (.int .i64 x82) rfl) (v_ rfl (sg (.int .i64 x82) rfl) (nl (wc_region (v_ rfl (mv v79 rfl) (v_ rfl (mv (.int .i64 x82) rfl) ?_))))))))))
            obtain ⟨⟨g99, g100, g101⟩, E⟩ := grd_some E
            refine e_ rfl (y_make (e := (.int .i64)) (z0 := 0) sl_44 rfl H rfl rfl g99 g100 (by omega) (by omega) (fun v98 w H => ?_))
            obtain ⟨⟨g102, g103⟩, E⟩ := grd_some E
            refine v_ rfl (r_idx sl_53 (rows_rd (H.get 2 rfl)) rfl rfl g102 g103) ?_
            obtain ⟨p104, n105, c106, rfl⟩ := own_form (H.get 3 rfl)
            refine s_ (y_stRow sz_44 H 2 3 rfl rfl rfl g102 g103 rfl rfl (fun us107 w H => (wl_nil (n_bk (n_thn (wc_region (v_ rfl (r_add rfl rfl) (v_ rfl (mv (.int .i64 (IntKind.i64.wrap (x82 + 1))) rfl) (wl_nil ?_)))))))))
            exact ⟨k94, Nat.lt_succ_self _, _, _, _, _, _, Nat.le_of_succ_le hk95, E, upds_eq ⟨rfl, rfl, rfl, rfl, rfl, rfl, rfl, rfl, rfl, rfl, rfl, trivial⟩, H.sel [0, 1, 2] rfl rfl⟩
          · have E := iF c97 E
            refine wc_exit (x_thn (x_thn (x_bk ?_)))
            exact ⟨k94, _, _, _, _, by omega, E, upds_eq ⟨rfl, rfl, rfl, rfl, rfl, rfl, rfl, rfl, rfl, trivial⟩, H⟩
        rintro t w ⟨k66, l64, v62, us63, t65, hk67, E, rfl, H⟩
        unfold noise_Tally.j0 at E
        refine wc_seq (rg (v_ rfl (mv v2_ rfl) ?_))
        obtain ⟨⟨g108, g109⟩, E⟩ := grd_some E
        have p111 : (10 : Int).toNat ≤ a2.length := by omega
        have p112 : a2.length ≤ a2.length := by omega
        refine v_ rfl (r_slcLR sl_42 (H.rd h2) rfl rfl g108 g109) (v_ rfl (r_lenR ul_42 (Rd.slv (H.rd h2) p111 p112) rfl) (v_ rfl (mv (.int .i64 0) rfl) (nl (wc_block ?_))))
        refine wc_loop (fun kk t w => ∃ (l137 : List (List (Int))) (x138 : Int) (t165 : Fr), kk ≤ k66 ∧ noise_Tally.l1 kk a0 a1 a2 a3 a4 l137 x138 = some r ∧ t = upds t165 [(1, .int .i64 a1), (2, v2_), (3, v3_), (4, v4_), (5, .pointer (some ⟨b1, 0, none⟩)), (10, .slice none 0 0), (11, .bool false), (14, v62), (54, .int .i64 ((((a2.take a2.length).drop ((10 : Int).toNat)).length : Int))), (55, .int .i64 x138), (1000000, undef)] ∧ St no w0 w [.blk b1 #[.int .i64 a0.1, .int .i64 a0.2.1, .int .i64 a0.2.2] 23, .rows (.int .u8) 5 42 v13 us14 x11.1, .rows (.int .i64) 3 44 v62 us63 l137]) k66 ?_ ?_
        · exact ⟨_, _, _, Nat.le_refl _, E, upds_eq ⟨rfl, rfl, rfl, rfl, rfl, rfl, rfl, rfl, rfl, rfl, rfl, trivial⟩, H⟩
        rintro kk t w ⟨l137, x138, t165, hk164, E, rfl, H⟩
        obtain ⟨k163, rfl⟩ | rfl : (∃ k', kk = k' + 1) ∨ kk = 0 := by cases kk; exact .inr rfl; exact .inl ⟨_, rfl⟩
        rotate_left
        · cases E
        rw [noise_Tally.l1] at E
        refine rg (v_ rfl (r_lss rfl rfl) (nl (wc_seq ?_)))
        refine wc_cond rfl (fun c167 => ?_) (fun c167 => ?_)
        · have E := iT c167 E
          refine wc_skip (n_thn (wc_seq (wc_block (rg (v_ rfl (mv (.int .i64 x138) rfl) (v_ rfl (sg (.int .i64 x138) rfl) (nl (rg (v_ rfl (r_loadB (l := [.int .i64 a0.1, .int .i64 a0.2.1, .int .i64 a0.2.2]) ag_23 (H.get 0 rfl) rfl rfl rfl) (v_ rfl (mv (.int .i64 a1) rfl) (v_ rfl (mv (.int .i64 x138) rfl) ?_)))))))))))
          obtain ⟨x168, E169, E⟩ := bind_some E
          refine e_ rfl (y_callL en_52 rfl ((weave_Spot.calls E169).mono ?_))
          rintro _ w ⟨rfl, K⟩
          have H := H.app K
          refine ⟨_, rfl, (v_ rfl (r_move) (v_ rfl (r_extract rfl rfl) (v_ rfl (r_extract rfl rfl) (v_ rfl (sg (.int .i64 x168.1) rfl) (v_ rfl (sg (.int .i64 x168.2) rfl) (nl (rg (v_ rfl (mv (.int .i64 x138) rfl) (v_ rfl (r_add rfl rfl) (v_ rfl (sg (.int .i64 (IntKind.i64.wrap (x138 + 10))) rfl) (nl (wc_block (rg (v_ rfl (mv v4_ rfl) (v_ rfl (mv (.int .i64 (IntKind.i64.wrap (x138 + 10))) rfl) ?_)))))))))))))))⟩
          obtain ⟨x170, E171, E⟩ := bind_some E
          refine e_ rfl (y_callL en_53 rfl ((slices_Contains.calls (H.arg (H.rd h4)) E171).mono ?_))
          rintro _ w ⟨rfl, K⟩
          have H := H.app K
          refine ⟨_, rfl, (v_ rfl (sg (.bool x170) rfl) (nl ?_))⟩
          refine wc_cond rfl (fun c172 => ?_) (fun c172 => ?_)
          · have E := iT c172 E
            refine wc_region (v_ rfl (mv v62 rfl) (v_ rfl (mv (.int .i64 x168.1) rfl) ?_))
            obtain ⟨⟨g173, g174⟩, E⟩ := grd_some E
            refine v_ rfl (r_idx sl_53 (rows_rd (H.get 2 rfl)) rfl rfl g173 g174) (v_ rfl (r_ldRow sc_44 (H.get 2 rfl) g173 g174 rfl) ?_)
            obtain ⟨⟨g175, g176⟩, E⟩ := grd_some E
            refine v_ rfl (r_idx sl_44 (row_rd (H.get 2 rfl) g173 g174) rfl rfl g175 g176) (v_ rfl (r_ldI sc_3 (row_rd (H.get 2 rfl) g173 g174) g175 g176 rfl) (v_ rfl (r_add rfl rfl) ?_))
            obtain ⟨⟨g177, g178⟩, E⟩ := grd_some E
            refine v_ rfl (r_idx sl_44 (row_rd (H.get 2 rfl) g173 g174) rfl rfl g177 g178) (s_ (y_stRI sz_3 H 2 rfl g173 g174 g177 g178 rfl rfl (fun w H => (wl_nil (n_bk (n_bk (n_thn (wc_region (v_ rfl (r_add rfl rfl) (v_ rfl (mv (.int .i64 (IntKind.i64.wrap (x138 + 1))) rfl) (wl_nil ?_)))))))))))
            exact ⟨k163, Nat.lt_succ_self _, _, _, _, Nat.le_of_succ_le hk164, E, upds_eq ⟨rfl, rfl, rfl, rfl, rfl, rfl, rfl, rfl, rfl, rfl, rfl, trivial⟩, H⟩
          · have E := iF c172 E
            refine wc_seq (wc_drawnS (ds := []) mo H rfl rfl ?_)
            have H := H.drew
            refine wa_take (i := 0) (l' := #[true, false, false, false, false, false, false, false, false, false]) rfl rfl rfl (by kernel_rfl) H (fun w H => (mv v2_ rfl)) (wa_take (i := 1) (l' := #[true, true, false, false, false, false, false, false, false, false]) rfl rfl rfl (by kernel_rfl) H (fun w H => (mv (.int .i64 (IntKind.i64.wrap (x138 + 10))) rfl)) ?_)
            obtain ⟨⟨g179, g180⟩, E⟩ := grd_some E
            refine wa_take (i := 2) (l' := #[true, true, true, false, false, false, false, false, false, false]) rfl rfl rfl (by kernel_rfl) H (fun w H => (r_idx sl_42 (H.rd h2) rfl rfl g179 g180)) (wa_take (i := 3) (l' := #[true, true, true, true, false, false, false, false, false, false]) rfl rfl rfl (by kernel_rfl) H (fun w H => (r_ldI sc_5 (H.rd h2) g179 g180 rfl)) (wa_take (i := 4) (l' := #[true, true, true, true, true, false, false, false, false, false]) rfl rfl rfl (by kernel_rfl) H (fun w H => (mv v3_ rfl)) (wa_take (i := 5) (l' := #[true, true, true, true, true, true, false, false, false, false]) rfl rfl rfl (by kernel_rfl) H (fun w H => (mv (.int .i64 (IntKind.i64.wrap (x138 + 10))) rfl)) ?_)))
            obtain ⟨⟨g181, g182⟩, E⟩ := grd_some E
            refine wa_take (i := 6) (l' := #[true, true, true, true, true, true, true, false, false, false]) rfl rfl rfl (by kernel_rfl) H (fun w H => (r_idx sl_42 (H.rd h3) rfl rfl g181 g182)) (wa_take (i := 7) (l' := #[true, true, true, true, true, true, true, true, false, false]) rfl rfl rfl (by kernel_rfl) H (fun w H => (r_ldI sc_5 (H.rd h3) g181 g182 rfl)) (wa_take (i := 8) (l' := #[true, true, true, true, true, true, true, true, true, false]) rfl rfl rfl (by kernel_rfl) H (fun w H => (r_neq rfl rfl)) (wa_take (i := 9) (l' := #[true, true, true, true, true, true, true, true, true, true]) rfl rfl rfl (by kernel_rfl) H (fun w H => (sg (.bool (!decide (at_ 0 a2 (IntKind.i64.wrap (x138 + 10)) = at_ 0 a3 (IntKind.i64.wrap (x138 + 10))))) rfl)) (wa_done (by kernel_rfl) (n_thn ?_)))))
            refine wc_cond rfl (fun c183 => ?_) (fun c183 => ?_)
            · have E := iT c183 E
              refine wc_region (v_ rfl (mv v62 rfl) (v_ rfl (mv (.int .i64 x168.1) rfl) ?_))
              obtain ⟨⟨g184, g185⟩, E⟩ := grd_some E
              refine v_ rfl (r_idx sl_53 (rows_rd (H.get 2 rfl)) rfl rfl g184 g185) (v_ rfl (r_ldRow sc_44 (H.get 2 rfl) g184 g185 rfl) ?_)
              obtain ⟨⟨g186, g187⟩, E⟩ := grd_some E
              refine v_ rfl (r_idx sl_44 (row_rd (H.get 2 rfl) g184 g185) rfl rfl g186 g187) (v_ rfl (r_ldI sc_3 (row_rd (H.get 2 rfl) g184 g185) g186 g187 rfl) (v_ rfl (r_add rfl rfl) ?_))
              obtain ⟨⟨g188, g189⟩, E⟩ := grd_some E
              refine v_ rfl (r_idx sl_44 (row_rd (H.get 2 rfl) g184 g185) rfl rfl g188 g189) (s_ (y_stRI sz_3 H 2 rfl g184 g185 g188 g189 rfl rfl (fun w H => (wl_nil (n_bk (n_bk (n_thn (wc_region (v_ rfl (r_add rfl rfl) (v_ rfl (mv (.int .i64 (IntKind.i64.wrap (x138 + 1))) rfl) (wl_nil ?_)))))))))))
              exact ⟨k163, Nat.lt_succ_self _, _, _, _, Nat.le_of_succ_le hk164, E, upds_eq ⟨rfl, rfl, rfl, rfl, rfl, rfl, rfl, rfl, rfl, rfl, rfl, trivial⟩, H⟩
            · have E := iF c183 E
              refine wc_skip (n_bk (n_bk (n_thn (wc_region (v_ rfl (r_add rfl rfl) (v_ rfl (mv (.int .i64 (IntKind.i64.wrap (x138 + 1))) rfl) (wl_nil ?_)))))))
              exact ⟨k163, Nat.lt_succ_self _, _, _, _, Nat.le_of_succ_le hk164, E, upds_eq ⟨rfl, rfl, rfl, rfl, rfl, rfl, rfl, rfl, rfl, rfl, rfl, trivial⟩, H⟩
        · have E := iF c167 E
          refine wc_exit (x_thn (x_thn (x_bk (n_thn (rg (v_ rfl (mv v62 rfl) (v_ rfl (sg v62 rfl) (v_ rfl (sg (.bool true) rfl) (nl (wc_ret ?_))))))))))
          cases E
          exact ⟨.inl rfl, _, tk0 rfl ⟨resN rfl (rv_t (rv_t rv_nil)), _, _, rfl, H.sub1 2 rfl⟩⟩
def ref12_Place.l0 : Nat → List Int → Int → Int → Option (Int)
  | 0, _, _, _ => none
  | k + 1, a0, a1, x6 => bif decide (x6 < (a0.length : Int)) then (grd (decide ((0 : Int) ≤ x6 ∧ x6 < (a0.length : Int))) (bif decide (at_ 0 a0 x6 = a1) then (some x6) else (ref12_Place.l0 k a0 a1 (IntKind.i64.wrap (x6 + 1))))) else (some (-1))
def ref12_Place.f (k : Nat) (a0 : List Int) (a1 : Int) : Option (Int) := ref12_Place.l0 k a0 a1 0
set_option maxRecDepth 100000 in
set_option maxHeartbeats 4000000 in
theorem ref12_Place.calls {w0 : World} {k : Nat} {a0 : List Int} {a1 : Int} {v0_ : Value} {r : Int} (h0 : Rd (.of (.int .i64)) w0 (Ol no w0) v0_ a0) (E : ref12_Place.f k a0 a1 = some r) :
    Calls Try.prog 29 #[v0_, .int .i64 a1] w0 fun e w' => e = .returned (.int .i64 r) ∧ St no w0 w' [] := by
  have H := St.nil no w0
  unfold ref12_Place.f at E
  refine calls_of_wc (N := 19) (args := [v0_, .int .i64 a1]) Try.func29 rfl rfl (by simp) ?_
  refine rg (v_ rfl (sg (.int .i64 0) rfl) (nl (wc_seq (rg (v_ rfl (sg (.int .i64 0) rfl) (nl (wc_block ?_)))))))
  refine wc_loop (fun kk t w => ∃ (x6 : Int) (t14 : Fr), kk ≤ k ∧ ref12_Place.l0 kk a0 a1 x6 = some r ∧ t = upds t14 [(0, v0_), (1, .int .i64 a1), (4, .int .i64 0), (5, .int .i64 x6), (1000000, undef)] ∧ St no w0 w []) k ?_ ?_
  · exact ⟨_, _, Nat.le_refl _, E, upds_eq ⟨rfl, rfl, rfl, rfl, rfl, trivial⟩, H⟩
  rintro kk t w ⟨x6, t14, hk13, E, rfl, H⟩
  obtain ⟨k12, rfl⟩ | rfl : (∃ k', kk = k' + 1) ∨ kk = 0 := by cases kk; exact .inr rfl; exact .inl ⟨_, rfl⟩
  rotate_left
  · cases E
  rw [ref12_Place.l0] at E
  refine wc_seq (rg (v_ rfl (mv (.int .i64 x6) rfl) (v_ rfl (mv v0_ rfl) (v_ rfl (r_lenR ul_44 (H.rd h0) rfl) (v_ rfl (r_lss rfl rfl) (nl ?_))))))
  refine wc_cond rfl (fun c16 => ?_) (fun c16 => ?_)
  · have E := iT c16 E
    refine wc_skip (n_thn (wc_seq (wc_block (rg (v_ rfl (mv v0_ rfl) (v_ rfl (mv (.int .i64 x6) rfl) ?_))))))
    obtain ⟨⟨g17, g18⟩, E⟩ := grd_some E
    refine v_ rfl (r_idx sl_44 (H.rd h0) rfl rfl g17 g18) (v_ rfl (r_ldI sc_3 (H.rd h0) g17 g18 rfl) (v_ rfl (mv (.int .i64 a1) rfl) (v_ rfl (r_eql rfl rfl) (nl ?_))))
    refine wc_cond rfl (fun c19 => ?_) (fun c19 => ?_)
    · have E := iT c19 E
      refine rg (v_ rfl (mv (.int .i64 x6) rfl) (v_ rfl (sg (.int .i64 x6) rfl) (nl (wc_ret ?_))))
      cases E
      exact (r_bk (r_thn (r_thn (r_bk (r_thn ⟨.inl rfl, _, tk0 rfl ⟨resN rfl (rv_t rv_nil), rfl, H.sub0⟩⟩)))))
    · have E := iF c19 E
      refine wc_skip (n_bk (n_thn (wc_region (v_ rfl (mv (.int .i64 x6) rfl) (v_ rfl (r_add rfl rfl) (v_ rfl (sg (.int .i64 (IntKind.i64.wrap (x6 + 1))) rfl) (wl_nil ?_)))))))
      exact ⟨k12, Nat.lt_succ_self _, _, _, Nat.le_of_succ_le hk13, E, upds_eq ⟨rfl, rfl, rfl, rfl, rfl, trivial⟩, H⟩
  · have E := iF c16 E
    refine wc_exit (x_thn (x_thn (x_bk (n_thn (rg (v_ rfl (sg (.int .i64 (-1)) rfl) (nl (wc_ret ?_))))))))
    cases E
    exact ⟨.inl rfl, _, tk0 rfl ⟨resN rfl (rv_t rv_nil), rfl, H.sub0⟩⟩
end Go.Proofs.Ythfhhnlnlcbckaa.Gw
