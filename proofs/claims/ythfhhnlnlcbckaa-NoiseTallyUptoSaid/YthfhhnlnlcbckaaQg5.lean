/- What these functions compute, and that they do: ref21_Weave, ref22_Encode. -/
/- Printed by a program of this project. -/
import Derived.Test.YthfhhnlnlcbckaaQ0
import Derived.Test.YthfhhnlnlcbckaaQg2
import Derived.Test.YthfhhnlnlcbckaaQg4
namespace Go.Proofs.Ythfhhnlnlcbckaa.Gw
open Go Go.RowKit
set_option linter.unusedVariables false
set_option linter.unusedSimpArgs false
def ref21_Weave.j0 (l1r : (Int × Int × Int) → Int → List (List Int) → List (Int) → Int → Option (List Int × Int)) (k : Nat) (a0 : Int × Int × Int) (a1 : Int) (a2 : List (List Int)) : Option (List Int × Int) := l1r a0 a1 a2 ([] : List (Int)) 0
mutual
def ref21_Weave.l0 : Nat → (Int × Int × Int) → Int → List (List Int) → Int → Option (List Int × Int)
  | 0, _, _, _, _ => none
  | k + 1, a0, a1, a2, x47 => bif decide (x47 < (a2.length : Int)) then (grd (decide ((0 : Int) ≤ x47 ∧ x47 < (a2.length : Int))) (bif !decide (((at_ [] a2 x47).length : Int) = a0.1) then (some (([] : List (Int)), 12)) else (ref21_Weave.l0 k a0 a1 a2 (IntKind.i64.wrap (x47 + 1))))) else (ref21_Weave.j0 (ref21_Weave.l1 k) k a0 a1 a2)
def ref21_Weave.l1 : Nat → (Int × Int × Int) → Int → List (List Int) → List (Int) → Int → Option (List Int × Int)
  | 0, _, _, _, _, _ => none
  | k + 1, a0, a1, a2, l92, x93 => bif decide (x93 < IntKind.i64.wrap ((a2.length : Int) * a0.1)) then ((ref21_Spot.f (a0.1, a0.2.1, a0.2.2) a1 x93).bind fun x112 => grd (decide ((0 : Int) ≤ x112.1 ∧ x112.1 < (a2.length : Int))) (grd (decide ((0 : Int) ≤ x112.2 ∧ x112.2 < ((at_ [] a2 x112.1).length : Int))) (grd (decide ((l92.length + ([at_ 0 (at_ [] a2 x112.1) x112.2]).length) * 1 ≤ 140737488355328)) (ref21_Weave.l1 k a0 a1 a2 (l92 ++ ([at_ 0 (at_ [] a2 x112.1) x112.2])) (IntKind.i64.wrap (x93 + 1)))))) else (some (l92, 0))
end
def ref21_Weave.f (k : Nat) (a0 : Int × Int × Int) (a1 : Int) (a2 : List (List Int)) : Option (List Int × Int) := (ref21_Right.f (a0.1, a0.2.1, a0.2.2) a1).bind fun x5 => bif !x5 then (some (([] : List (Int)), 10)) else (grd (decide (a1 ≠ 0)) (bif !decide (Int.tmod (a2.length : Int) a1 = 0) then (some (([] : List (Int)), 12)) else (ref21_Weave.l0 k a0 a1 a2 0)))
set_option maxRecDepth 100000 in
set_option maxHeartbeats 4000000 in
theorem ref21_Weave.calls {w0 : World} {k : Nat} {a0 : Int × Int × Int} {a1 : Int} {a2 : List (List Int)} {v2_ : Value} {r : List Int × Int} (h2 : Rd (.sl (.of (.int .u8))) w0 (Ol no w0) v2_ a2) (E : ref21_Weave.f k a0 a1 a2 = some r) :
    Calls Try.prog 50 #[.agg #[.int .i64 a0.1, .int .i64 a0.2.1, .int .i64 a0.2.2], .int .i64 a1, v2_] w0 fun e w' => ∃ (u0 : Value), e = .returned (.tuple #[u0, .int .i64 r.2]) ∧ St no w0 w' [.own (.int .u8) 5 u0 r.1] := by
  have H := St.nil no w0
  unfold ref21_Weave.f at E
  refine calls_of_wc (N := 63) (args := [.agg #[.int .i64 a0.1, .int .i64 a0.2.1, .int .i64 a0.2.2], .int .i64 a1, v2_]) Try.func50 rfl rfl (by simp) ?_
  refine rg (e_ rfl (y_boxS (cs := #[.int .i64 a0.1, .int .i64 a0.2.1, .int .i64 a0.2.2]) H rfl (fun b1 w H => (v_ rfl (sg (.slice none 0 0) rfl) (v_ rfl (sg (.int .i64 0) rfl) (nl (wc_seq (rg (v_ rfl (r_loadB (l := [.int .i64 a0.1, .int .i64 a0.2.1, .int .i64 a0.2.2]) ag_23 (H.get 0 rfl) rfl rfl rfl) (v_ rfl (mv (.int .i64 a1) rfl) ?_))))))))))
  obtain ⟨x5, E6, E⟩ := bind_some E
  refine e_ rfl (y_callL en_47 rfl ((ref21_Right.calls E6).mono ?_))
  rintro _ w ⟨rfl, K⟩
  have H := H.app K
  refine ⟨_, rfl, (v_ rfl (r_not rfl) (nl ?_))⟩
  refine wc_cond rfl (fun c7 => ?_) (fun c7 => ?_)
  · have E := iT c7 E
    refine rg (v_ rfl (sg (.slice none 0 0) rfl) (v_ rfl (sg (.int .i64 10) rfl) (nl (wc_ret ?_))))
    have H := H.nilOwn (.int .u8) 5
    cases E
    exact (r_thn ⟨.inl rfl, _, tk0 rfl ⟨resN rfl (rv_t (rv_t rv_nil)), _, rfl, H.sub1 1 rfl⟩⟩)
  · have E := iF c7 E
    refine wc_skip (n_thn (wc_seq (rg (v_ rfl (mv v2_ rfl) (v_ rfl (r_lenR ul_92 (H.rd h2) rfl) (v_ rfl (mv (.int .i64 a1) rfl) ?_))))))
    obtain ⟨g10, E⟩ := grd_some E
    refine v_ rfl (r_rem rfl rfl g10) (v_ rfl (r_neq rfl rfl) (nl ?_))
    refine wc_cond rfl (fun c11 => ?_) (fun c11 => ?_)
    · have E := iT c11 E
      refine rg (v_ rfl (sg (.slice none 0 0) rfl) (v_ rfl (sg (.int .i64 12) rfl) (nl (wc_ret ?_))))
      have H := H.nilOwn (.int .u8) 5
      cases E
      exact (r_thn ⟨.inl rfl, _, tk0 rfl ⟨resN rfl (rv_t (rv_t rv_nil)), _, rfl, H.sub1 1 rfl⟩⟩)
    · have E := iF c11 E
      refine wc_skip (n_thn ?_)
      refine wc_seqJ (fun t w => ∃ (k38 : Nat) (t37 : Fr), k38 ≤ k ∧ ref21_Weave.j0 (ref21_Weave.l1 k38) k38 a0 a1 a2 = some r ∧ t = upds t37 [(1, .int .i64 a1), (2, v2_), (3, .pointer (some ⟨b1, 0, none⟩)), (6, .slice none 0 0), (7, .int .i64 0), (1000000, undef)] ∧ St no w0 w [.blk b1 #[.int .i64 a0.1, .int .i64 a0.2.1, .int .i64 a0.2.2] 23]) ?_ ?_
      · refine rg (v_ rfl (sg (.int .i64 0) rfl) (nl (wc_block ?_)))
        refine wc_loop (fun kk t w => ∃ (x47 : Int) (t57 : Fr), kk ≤ k ∧ ref21_Weave.l0 kk a0 a1 a2 x47 = some r ∧ t = upds t57 [(1, .int .i64 a1), (2, v2_), (3, .pointer (some ⟨b1, 0, none⟩)), (6, .slice none 0 0), (7, .int .i64 0), (8, .int .i64 x47), (1000000, undef)] ∧ St no w0 w [.blk b1 #[.int .i64 a0.1, .int .i64 a0.2.1, .int .i64 a0.2.2] 23]) k ?_ ?_
        · exact ⟨_, _, Nat.le_refl _, E, upds_eq ⟨rfl, rfl, rfl, rfl, rfl, rfl, rfl, trivial⟩, H⟩
        rintro kk t w ⟨x47, t57, hk56, E, rfl, H⟩
        obtain ⟨k55, rfl⟩ | rfl : (∃ k', kk = k' + 1) ∨ kk = 0 := by cases kk; exact .inr rfl; exact .inl ⟨_, rfl⟩
        rotate_left
        · cases E
        rw [ref21_Weave.l0] at E
        refine wc_seq (rg (v_ rfl (mv (.int .i64 x47) rfl) (v_ rfl (mv v2_ rfl) (v_ rfl (r_lenR ul_92 (H.rd h2) rfl) (v_ rfl (r_lss rfl rfl) (nl ?_))))))
        refine wc_cond rfl (fun c59 => ?_) (fun c59 => ?_)
        · have E := iT c59 E
          refine wc_skip (n_thn (wc_seq (wc_block (wc_seq (wc_drawnS (ds := []) mo H rfl rfl ?_)))))
          have H := H.drew
          refine wa_take (i := 0) (l' := #[true, false, false, false, false, false, false, false]) rfl rfl rfl (by kernel_rfl) H (fun w H => (mv v2_ rfl)) (wa_take (i := 1) (l' := #[true, true, false, false, false, false, false, false]) rfl rfl rfl (by kernel_rfl) H (fun w H => (mv (.int .i64 x47) rfl)) ?_)
          obtain ⟨⟨g60, g61⟩, E⟩ := grd_some E
          refine wa_take (i := 2) (l' := #[true, true, true, false, false, false, false, false]) rfl rfl rfl (by kernel_rfl) H (fun w H => (r_idx sl_92 (H.rd h2) rfl rfl g60 g61)) (wa_take (i := 5) (l' := #[true, true, true, false, false, true, false, false]) rfl rfl rfl (by kernel_rfl) H (fun w H => (r_faddr fa_23_0 rfl)) (wa_take (i := 6) (l' := #[true, true, true, false, false, true, true, false]) rfl rfl rfl (by kernel_rfl) H (fun w H => (r_load sc_3 rfl (blk_cell (H.get 0 rfl) rfl))) (wa_one (i := 3) (l' := #[true, true, true, true, false, true, true, false]) rfl rfl rfl (by kernel_rfl) (y_ldS0 sc_42 H h2 g60 g61 rfl (fun v62 h63 => ⟨fun _ => H.sel [0] rfl rfl, (wa_take (i := 4) (l' := #[true, true, true, true, true, true, true, false]) rfl rfl rfl (by kernel_rfl) (H.sel [0] rfl rfl) (fun w H => (r_lenR ul_42 (H.rd h63) rfl)) (wa_take (i := 7) (l' := #[true, true, true, true, true, true, true, true]) rfl rfl rfl (by kernel_rfl) (H.sel [0] rfl rfl) (fun w H => (r_neq rfl rfl)) (wa_done (by kernel_rfl) (n_thn ?_))))⟩)))))
          refine wc_cond rfl (fun c64 => ?_) (fun c64 => ?_)
          · have E := iT c64 E
            refine rg (v_ rfl (sg (.slice none 0 0) rfl) (v_ rfl (sg (.int .i64 12) rfl) (nl (wc_ret ?_))))
            have H := H.nilOwn (.int .u8) 5
            cases E
            exact (r_bk (r_thn (r_thn (r_bk (r_thn ⟨.inl rfl, _, tk0 rfl ⟨resN rfl (rv_t (rv_t rv_nil)), _, rfl, H.sub1 1 rfl⟩⟩)))))
          · have E := iF c64 E
            refine wc_skip (n_bk (n_thn (wc_region (v_ rfl (mv (.int .i64 x47) rfl) (v_ rfl (r_add rfl rfl) (v_ rfl (sg (.int .i64 (IntKind.i64.wrap (x47 + 1))) rfl) (wl_nil ?_)))))))
            exact ⟨k55, Nat.lt_succ_self _, _, _, Nat.le_of_succ_le hk56, E, upds_eq ⟨rfl, rfl, rfl, rfl, rfl, rfl, rfl, trivial⟩, H⟩
        · have E := iF c59 E
          refine wc_exit (x_thn (x_thn (x_bk ?_)))
          exact ⟨k55, _, by omega, E, upds_eq ⟨rfl, rfl, rfl, rfl, rfl, rfl, trivial⟩, H⟩
      rintro t w ⟨k38, t37, hk39, E, rfl, H⟩
      unfold ref21_Weave.j0 at E
      refine rg (v_ rfl (sg (.slice none 0 0) rfl) (nl (wc_seq (rg (v_ rfl (sg (.int .i64 0) rfl) (nl (wc_block ?_)))))))
      have H := H.nilOwn (.int .u8) 5
      refine wc_loop (fun kk t w => ∃ (l92 : List (Int)) (x93 : Int) (v91 : Value) (t109 : Fr), kk ≤ k38 ∧ ref21_Weave.l1 kk a0 a1 a2 l92 x93 = some r ∧ t = upds t109 [(1, .int .i64 a1), (2, v2_), (3, .pointer (some ⟨b1, 0, none⟩)), (6, .slice none 0 0), (7, .int .i64 0), (9, v91), (10, .int .i64 x93), (1000000, undef)] ∧ St no w0 w [.blk b1 #[.int .i64 a0.1, .int .i64 a0.2.1, .int .i64 a0.2.2] 23, .own (.int .u8) 5 v91 l92]) k38 ?_ ?_
      · exact ⟨_, _, _, _, Nat.le_refl _, E, upds_eq ⟨rfl, rfl, rfl, rfl, rfl, rfl, rfl, rfl, trivial⟩, H⟩
      rintro kk t w ⟨l92, x93, v91, t109, hk108, E, rfl, H⟩
      obtain ⟨k107, rfl⟩ | rfl : (∃ k', kk = k' + 1) ∨ kk = 0 := by cases kk; exact .inr rfl; exact .inl ⟨_, rfl⟩
      rotate_left
      · cases E
      rw [ref21_Weave.l1] at E
      refine wc_seq (rg (v_ rfl (mv (.int .i64 x93) rfl) (v_ rfl (mv v2_ rfl) (v_ rfl (r_lenR ul_92 (H.rd h2) rfl) (v_ rfl (r_faddr fa_23_0 rfl) (v_ rfl (r_load sc_3 rfl (blk_cell (H.get 0 rfl) rfl)) (v_ rfl (r_mul rfl rfl) (v_ rfl (r_lss rfl rfl) (nl ?_)))))))))
      refine wc_cond rfl (fun c111 => ?_) (fun c111 => ?_)
      · have E := iT c111 E
        refine wc_skip (n_thn (wc_seq (wc_block (rg (v_ rfl (r_loadB (l := [.int .i64 a0.1, .int .i64 a0.2.1, .int .i64 a0.2.2]) ag_23 (H.get 0 rfl) rfl rfl rfl) (v_ rfl (mv (.int .i64 a1) rfl) (v_ rfl (mv (.int .i64 x93) rfl) ?_)))))))
        obtain ⟨x112, E113, E⟩ := bind_some E
        refine e_ rfl (y_callL en_65 rfl ((ref21_Spot.calls E113).mono ?_))
        rintro _ w ⟨rfl, K⟩
        have H := H.app K
        refine ⟨_, rfl, (v_ rfl (r_move) (v_ rfl (r_extract rfl rfl) (v_ rfl (r_extract rfl rfl) (v_ rfl (sg (.int .i64 x112.1) rfl) (v_ rfl (sg (.int .i64 x112.2) rfl) (nl (wc_region (v_ rfl (mv v91 rfl) (v_ rfl (mv v2_ rfl) (v_ rfl (mv (.int .i64 x112.1) rfl) ?_))))))))))⟩
        obtain ⟨⟨g114, g115⟩, E⟩ := grd_some E
        refine v_ rfl (r_idx sl_92 (H.rd h2) rfl rfl g114 g115) (e_ rfl (y_ldS0 sc_42 H h2 g114 g115 rfl (fun v116 h117 => (v_ rfl (mv (.int .i64 x112.2) rfl) ?_))))
        obtain ⟨⟨g118, g119⟩, E⟩ := grd_some E
        refine v_ rfl (r_idx sl_42 (H.rd h117) rfl rfl g118 g119) (v_ rfl (r_ldI sc_5 (H.rd h117) g118 g119 rfl) (e_ rfl (y_bsL (e := (.int .u8)) (l := [at_ 0 (at_ [] a2 x112.1) x112.2]) sl_42 H rfl (by decide) ⟨rfl, rfl, trivial⟩ (by decide) (fun v120 w H => ?_))))
        obtain ⟨g122, E⟩ := grd_some E
        refine e_ rfl (y_app sl_42 H 1 rfl (own_rd (H.get 2 rfl)) rfl rfl (by omega) (by unfold maxLen; omega) (fun v121 w H => (v_ rfl (sg v121 rfl) (wl_nil (n_bk (n_thn (wc_region (v_ rfl (mv (.int .i64 x93) rfl) (v_ rfl (r_add rfl rfl) (v_ rfl (sg (.int .i64 (IntKind.i64.wrap (x93 + 1))) rfl) (wl_nil ?_)))))))))))
        exact ⟨k107, Nat.lt_succ_self _, _, _, _, _, Nat.le_of_succ_le hk108, E, upds_eq ⟨rfl, rfl, rfl, rfl, rfl, rfl, rfl, rfl, trivial⟩, H.sel [0, 1] rfl rfl⟩
      · have E := iF c111 E
        refine wc_exit (x_thn (x_thn (x_bk (n_thn (rg (v_ rfl (mv v91 rfl) (v_ rfl (sg v91 rfl) (v_ rfl (sg (.int .i64 0) rfl) (nl (wc_ret ?_))))))))))
        cases E
        exact ⟨.inl rfl, _, tk0 rfl ⟨resN rfl (rv_t (rv_t rv_nil)), _, rfl, H.sub1 1 rfl⟩⟩
def ref22_Encode.j0 (k : Nat) (a0 : Int × Int × Int) (a1 : Int) (a3 : List Int) (l87 : List (List (Int))) : Option (List Int × Int) := (ref21_Weave.f k (a0.1, a0.2.1, a0.2.2) a1 l87).bind fun x154 => grd (decide ((([69, 82, IntKind.u8.wrap a0.1, IntKind.u8.wrap a0.2.1, IntKind.u8.wrap a0.2.2, IntKind.u8.wrap a1, IntKind.u8.wrap (Int.fdiv (a3.length : Int) (2 ^ (min (24 : Int).toNat 64))), IntKind.u8.wrap (Int.fdiv (a3.length : Int) (2 ^ (min (16 : Int).toNat 64))), IntKind.u8.wrap (Int.fdiv (a3.length : Int) (2 ^ (min (8 : Int).toNat 64))), IntKind.u8.wrap (a3.length : Int)]).length + x154.1.length) * 1 ≤ 140737488355328)) (some (([69, 82, IntKind.u8.wrap a0.1, IntKind.u8.wrap a0.2.1, IntKind.u8.wrap a0.2.2, IntKind.u8.wrap a1, IntKind.u8.wrap (Int.fdiv (a3.length : Int) (2 ^ (min (24 : Int).toNat 64))), IntKind.u8.wrap (Int.fdiv (a3.length : Int) (2 ^ (min (16 : Int).toNat 64))), IntKind.u8.wrap (Int.fdiv (a3.length : Int) (2 ^ (min (8 : Int).toNat 64))), IntKind.u8.wrap (a3.length : Int)]) ++ x154.1, 0))
def ref22_Encode.l0 : Nat → (Int × Int × Int) → Int → List Int → (List (List Int) × Int) → List (List (Int)) → Int → Option (List Int × Int)
  | 0, _, _, _, _, _, _ => none
  | k + 1, a0, a1, a3, x18, l121, x122 => bif decide (x122 < (x18.1.length : Int)) then (grd (decide ((0 : Int) ≤ x122 ∧ x122 < (x18.1.length : Int))) ((ref11_Encode.f k (a0.1, a0.2.1, a0.2.2) (at_ [] x18.1 x122)).bind fun x144 => grd (decide ((l121.length + 1) * 24 ≤ 140737488355328)) (ref22_Encode.l0 k a0 a1 a3 x18 (l121 ++ [x144.1]) (IntKind.i64.wrap (x122 + 1))))) else (ref22_Encode.j0 k a0 a1 a3 l121)
def ref22_Encode.f (k : Nat) (a0 : Int × Int × Int) (a1 : Int) (a2 : Int × Int) (a3 : List Int) : Option (List Int × Int) := (ref21_Right.f (a0.1, a0.2.1, a0.2.2) a1).bind fun x10 => bif !x10 then (some (([] : List (Int)), 10)) else ((ref19_Right.f (a2.1, a2.2)).bind fun x13 => bif !decide (x13 = 0) then (some (([] : List (Int)), 11)) else (bif decide (16777216 ≤ (a3.length : Int)) then (some (([] : List (Int)), 12)) else ((ref21_Blocks.f k (a0.1, a0.2.1, a0.2.2) a1 a3).bind fun x18 => ref22_Encode.l0 k a0 a1 a3 x18 ([] : List (List (Int))) 0)))
set_option maxRecDepth 100000 in
set_option maxHeartbeats 4000000 in
theorem ref22_Encode.calls {w0 : World} {k : Nat} {a0 : Int × Int × Int} {a1 : Int} {a2 : Int × Int} {a3 : List Int} {v3_ : Value} {r : List Int × Int} (h3 : Rd (.of (.int .u8)) w0 (Ol no w0) v3_ a3) (E : ref22_Encode.f k a0 a1 a2 a3 = some r) :
    Calls Try.prog 26 #[.agg #[.int .i64 a0.1, .int .i64 a0.2.1, .int .i64 a0.2.2], .int .i64 a1, .agg #[.int .i64 a2.1, .int .i64 a2.2], v3_] w0 fun e w' => ∃ (u0 : Value), e = .returned (.tuple #[u0, .int .i64 r.2]) ∧ St no w0 w' [.own (.int .u8) 5 u0 r.1] := by
  have H := St.nil no w0
  unfold ref22_Encode.f at E
  refine calls_of_wc (N := 94) (args := [.agg #[.int .i64 a0.1, .int .i64 a0.2.1, .int .i64 a0.2.2], .int .i64 a1, .agg #[.int .i64 a2.1, .int .i64 a2.2], v3_]) Try.func26 rfl rfl (by simp) ?_
  refine rg (e_ rfl (y_boxS (cs := #[.int .i64 a0.1, .int .i64 a0.2.1, .int .i64 a0.2.2]) H rfl (fun b1 w H => (e_ rfl (y_boxS (cs := #[.int .i64 a2.1, .int .i64 a2.2]) H rfl (fun b2 w H => (v_ rfl (sg (.slice none 0 0) rfl) (v_ rfl (sg (.int .i64 0) rfl) (nl (wc_seq (wc_block (rg (v_ rfl (r_loadB (l := [.int .i64 a0.1, .int .i64 a0.2.1, .int .i64 a0.2.2]) ag_23 (H.get 0 rfl) rfl rfl rfl) (v_ rfl (mv (.int .i64 a1) rfl) ?_))))))))))))))
  obtain ⟨x10, E11, E⟩ := bind_some E
  refine e_ rfl (y_callL en_47 rfl ((ref21_Right.calls E11).mono ?_))
  rintro _ w ⟨rfl, K⟩
  have H := H.app K
  refine ⟨_, rfl, (v_ rfl (r_not rfl) (v_ rfl (sg (.bool (!x10)) rfl) (nl ?_)))⟩
  refine wc_cond rfl (fun c12 => ?_) (fun c12 => ?_)
  · have E := iT c12 E
    refine rg (v_ rfl (sg (.slice none 0 0) rfl) (v_ rfl (sg (.int .i64 10) rfl) (nl (wc_ret ?_))))
    have H := H.nilOwn (.int .u8) 5
    cases E
    exact (r_bk (r_thn ⟨.inl rfl, _, tk0 rfl ⟨resN rfl (rv_t (rv_t rv_nil)), _, rfl, H.sub1 2 rfl⟩⟩))
  · have E := iF c12 E
    refine rg (v_ rfl (r_loadB (l := [.int .i64 a2.1, .int .i64 a2.2]) ag_25 (H.get 1 rfl) rfl rfl rfl) ?_)
    obtain ⟨x13, E14, E⟩ := bind_some E
    refine e_ rfl (y_callL en_31 rfl ((ref19_Right.calls E14).mono ?_))
    rintro _ w ⟨rfl, K⟩
    have H := H.app K
    refine ⟨_, rfl, (v_ rfl (r_neq rfl rfl) (v_ rfl (sg (.bool (!decide (x13 = 0))) rfl) (nl ?_)))⟩
    refine wc_cond rfl (fun c15 => ?_) (fun c15 => ?_)
    · have E := iT c15 E
      refine rg (v_ rfl (sg (.slice none 0 0) rfl) (v_ rfl (sg (.int .i64 11) rfl) (nl (wc_ret ?_))))
      have H := H.nilOwn (.int .u8) 5
      cases E
      exact (r_bk (r_thn ⟨.inl rfl, _, tk0 rfl ⟨resN rfl (rv_t (rv_t rv_nil)), _, rfl, H.sub1 2 rfl⟩⟩))
    · have E := iF c15 E
      refine rg (v_ rfl (mv v3_ rfl) (v_ rfl (r_lenR ul_42 (H.rd h3) rfl) (v_ rfl (r_geq rfl rfl) (v_ rfl (sg (.bool (decide (16777216 ≤ (a3.length : Int)))) rfl) (nl ?_)))))
      refine wc_cond rfl (fun c16 => ?_) (fun c16 => ?_)
      · have E := iT c16 E
        refine rg (v_ rfl (sg (.slice none 0 0) rfl) (v_ rfl (sg (.int .i64 12) rfl) (nl (wc_ret ?_))))
        have H := H.nilOwn (.int .u8) 5
        cases E
        exact (r_bk (r_thn ⟨.inl rfl, _, tk0 rfl ⟨resN rfl (rv_t (rv_t rv_nil)), _, rfl, H.sub1 2 rfl⟩⟩))
      · have E := iF c16 E
        refine wc_skip (n_bk (n_thn (rg (v_ rfl (mv v3_ rfl) (v_ rfl (r_lenR ul_42 (H.rd h3) rfl) (v_ rfl (sg (.int .i64 (a3.length : Int)) rfl) (nl (rg (v_ rfl (r_faddr fa_23_0 rfl) (v_ rfl (r_load sc_3 rfl (blk_cell (H.get 0 rfl) rfl)) (v_ rfl (r_conv rfl Try.underlying3 Try.underlying5) (v_ rfl (r_faddr fa_23_1 rfl) (v_ rfl (r_load sc_3 rfl (blk_cell (H.get 0 rfl) rfl)) (v_ rfl (r_conv rfl Try.underlying3 Try.underlying5) (v_ rfl (r_faddr fa_23_2 rfl) (v_ rfl (r_load sc_3 rfl (blk_cell (H.get 0 rfl) rfl)) (v_ rfl (r_conv rfl Try.underlying3 Try.underlying5) (v_ rfl (mv (.int .i64 a1) rfl) (v_ rfl (r_conv rfl Try.underlying3 Try.underlying5) (v_ rfl (mv (.int .i64 (a3.length : Int)) rfl) (v_ rfl (r_shr rfl rfl (by decide)) (v_ rfl (r_conv rfl Try.underlying3 Try.underlying5) (v_ rfl (mv (.int .i64 (a3.length : Int)) rfl) (v_ rfl (r_shr rfl rfl (by decide)) (v_ rfl (r_conv rfl Try.underlying3 Try.underlying5) (v_ rfl (mv (.int .i64 (a3.length : Int)) rfl) (v_ rfl (r_shr rfl rfl (by decide)) (v_ rfl (r_conv rfl Try.underlying3 Try.underlying5) (v_ rfl (mv (.int .i64 (a3.length : Int)) rfl) (v_ rfl (r_conv rfl Try.underlying3 Try.underlying5) (e_ rfl (y_bsL (e := (.int .u8)) (l := [69, 82, IntKind.u8.wrap a0.1, IntKind.u8.wrap a0.2.1, IntKind.u8.wrap a0.2.2, IntKind.u8.wrap a1, IntKind.u8.wrap (Int.fdiv (a3.length : Int) (2 ^ (min (24 : Int).toNat 64))), IntKind.u8.wrap (Int.fdiv (a3.length : Int) (2 ^ (min (16 : Int).toNat 64))), IntKind.u8.wrap (Int.fdiv (a3.length : Int) (2 ^ (min (8 : Int).toNat 64))), IntKind.u8.wrap (a3.length : Int)]) sl_42 H rfl (by decide) ⟨rfl, rfl, rfl, rfl, rfl, rfl, rfl, rfl, rfl, rfl, rfl, rfl, rfl, rfl, rfl, rfl, rfl, rfl, rfl, rfl, trivial⟩ (by decide) (fun v17 w H => ?_)))))))))))))))))))))))))))))))))
        have H : St no w0 w [.blk b1 #[.int .i64 a0.1, .int .i64 a0.2.1, .int .i64 a0.2.2] 23, .blk b2 #[.int .i64 a2.1, .int .i64 a2.2] 25, .own (.int .u8) 5 v17 ([69, 82, IntKind.u8.wrap a0.1, IntKind.u8.wrap a0.2.1, IntKind.u8.wrap a0.2.2, IntKind.u8.wrap a1, IntKind.u8.wrap (Int.fdiv (a3.length : Int) (2 ^ (min (24 : Int).toNat 64))), IntKind.u8.wrap (Int.fdiv (a3.length : Int) (2 ^ (min (16 : Int).toNat 64))), IntKind.u8.wrap (Int.fdiv (a3.length : Int) (2 ^ (min (8 : Int).toNat 64))), IntKind.u8.wrap (a3.length : Int)])] := H
        refine v_ rfl (sg v17 rfl) (nl (rg (v_ rfl (r_loadB (l := [.int .i64 a0.1, .int .i64 a0.2.1, .int .i64 a0.2.2]) ag_23 (H.get 0 rfl) rfl rfl rfl) (v_ rfl (mv (.int .i64 a1) rfl) (v_ rfl (mv v3_ rfl) ?_)))))
        obtain ⟨x18, E19, E⟩ := bind_some E
        refine e_ rfl (y_callL en_48 rfl ((ref21_Blocks.calls (H.arg (H.rd h3)) E19).mono ?_))
        rintro _ w ⟨v20, us21, rfl, K⟩
        have H := H.app K
        refine ⟨_, rfl, (v_ rfl (r_move) (v_ rfl (r_extract rfl rfl) (v_ rfl (r_extract rfl rfl) (v_ rfl (sg v20 rfl) (v_ rfl (sg (.int .i64 x18.2) rfl) (nl (rg (v_ rfl (sg (.slice none 0 0) rfl) (nl ?_)))))))))⟩
        refine wc_seqJ (fun t w => ∃ (k89 : Nat) (l87 : List (List (Int))) (v85 : Value) (us86 : List Sv) (t88 : Fr), k89 ≤ k ∧ ref22_Encode.j0 k89 a0 a1 a3 l87 = some r ∧ t = upds t88 [(1, .int .i64 a1), (4, .pointer (some ⟨b1, 0, none⟩)), (8, .slice none 0 0), (9, .int .i64 0), (11, v17), (14, v85), (1000000, undef)] ∧ St no w0 w [.blk b1 #[.int .i64 a0.1, .int .i64 a0.2.1, .int .i64 a0.2.2] 23, .blk b2 #[.int .i64 a2.1, .int .i64 a2.2] 25, .own (.int .u8) 5 v17 ([69, 82, IntKind.u8.wrap a0.1, IntKind.u8.wrap a0.2.1, IntKind.u8.wrap a0.2.2, IntKind.u8.wrap a1, IntKind.u8.wrap (Int.fdiv (a3.length : Int) (2 ^ (min (24 : Int).toNat 64))), IntKind.u8.wrap (Int.fdiv (a3.length : Int) (2 ^ (min (16 : Int).toNat 64))), IntKind.u8.wrap (Int.fdiv (a3.length : Int) (2 ^ (min (8 : Int).toNat 64))), IntKind.u8.wrap (a3.length : Int)]), .rows (.int .u8) 5 42 v20 us21 x18.1, .rows (.int .u8) 5 42 v85 us86 l87]) ?_ ?_
        · refine rg (v_ rfl (sg (.int .i64 0) rfl) (nl (wc_block ?_)))
          have H := H.nilRows (.int .u8) 5 42
          refine wc_loop (fun kk t w => ∃ (l121 : List (List (Int))) (x122 : Int) (v119 : Value) (us120 : List Sv) (t139 : Fr), kk ≤ k ∧ ref22_Encode.l0 kk a0 a1 a3 x18 l121 x122 = some r ∧ t = upds t139 [(1, .int .i64 a1), (4, .pointer (some ⟨b1, 0, none⟩)), (8, .slice none 0 0), (9, .int .i64 0), (11, v17), (12, v20), (14, v119), (15, .int .i64 x122), (1000000, undef)] ∧ St no w0 w [.blk b1 #[.int .i64 a0.1, .int .i64 a0.2.1, .int .i64 a0.2.2] 23, .blk b2 #[.int .i64 a2.1, .int .i64 a2.2] 25, .own (.int .u8) 5 v17 ([69, 82, IntKind.u8.wrap a0.1, IntKind.u8.wrap a0.2.1, IntKind.u8.wrap a0.2.2, IntKind.u8.wrap a1, IntKind.u8.wrap (Int.fdiv (a3.length : Int) (2 ^ (min (24 : Int).toNat 64))), IntKind.u8.wrap (Int.fdiv (a3.length : Int) (2 ^ (min (16 : Int).toNat 64))), IntKind.u8.wrap (Int.fdiv (a3.length : Int) (2 ^ (min (8 : Int).toNat 64))), IntKind.u8.wrap (a3.length : Int)]), .rows (.int .u8) 5 42 v20 us21 x18.1, .rows (.int .u8) 5 42 v119 us120 l121]) k ?_ ?_
          · exact ⟨_, _, _, _, _, Nat.le_refl _, E, upds_eq ⟨rfl, rfl, rfl, rfl, rfl, rfl, rfl, rfl, rfl, trivial⟩, H⟩
          rintro kk t w ⟨l121, x122, v119, us120, t139, hk138, E, rfl, H⟩
          obtain ⟨k137, rfl⟩ | rfl : (∃ k', kk = k' + 1) ∨ kk = 0 := by cases kk; exact .inr rfl; exact .inl ⟨_, rfl⟩
          rotate_left
          · cases E
          rw [ref22_Encode.l0] at E
          refine wc_seq (rg (v_ rfl (mv (.int .i64 x122) rfl) (v_ rfl (mv v20 rfl) (v_ rfl (r_lenR ul_92 (rows_rd (H.get 3 rfl)) rfl) (v_ rfl (r_lss rfl rfl) (nl ?_))))))
          refine wc_cond rfl (fun c141 => ?_) (fun c141 => ?_)
          · have E := iT c141 E
            refine wc_skip (n_thn (wc_seq (wc_block (wc_seq (wc_drawnS (ds := []) mo H rfl rfl ?_)))))
            have H := H.drew
            refine wa_take (i := 0) (l' := #[true, false, false, false, false, false, false, false, false, false, false]) rfl rfl rfl (by kernel_rfl) H (fun w H => (r_loadB (l := [.int .i64 a0.1, .int .i64 a0.2.1, .int .i64 a0.2.2]) ag_23 (H.get 0 rfl) rfl rfl rfl)) (wa_take (i := 1) (l' := #[true, true, false, false, false, false, false, false, false, false, false]) rfl rfl rfl (by kernel_rfl) H (fun w H => (mv v20 rfl)) (wa_take (i := 2) (l' := #[true, true, true, false, false, false, false, false, false, false, false]) rfl rfl rfl (by kernel_rfl) H (fun w H => (mv (.int .i64 x122) rfl)) ?_))
            obtain ⟨⟨g142, g143⟩, E⟩ := grd_some E
            refine wa_take (i := 3) (l' := #[true, true, true, true, false, false, false, false, false, false, false]) rfl rfl rfl (by kernel_rfl) H (fun w H => (r_idx sl_92 (rows_rd (H.get 3 rfl)) rfl rfl g142 g143)) (wa_take (i := 4) (l' := #[true, true, true, true, true, false, false, false, false, false, false]) rfl rfl rfl (by kernel_rfl) H (fun w H => (r_ldRow sc_42 (H.get 3 rfl) g142 g143 rfl)) ?_)
            obtain ⟨x144, E145, E⟩ := bind_some E
            refine wa_one (i := 5) (l' := #[true, true, true, true, true, true, false, false, false, false, false]) rfl rfl rfl (by kernel_rfl) (y_callL en_49 rfl ((ref11_Encode.calls (H.own 3 rfl (row_rd (H.get 3 rfl) g142 g143)) E145).mono ?_))
            rintro _ w ⟨v146, rfl, K⟩
            have H := H.app K
            refine ⟨_, rfl, ⟨fun _ => H.sel [0, 1, 2, 3, 4] rfl rfl, (wa_take (i := 6) (l' := #[true, true, true, true, true, true, true, false, false, false, false]) rfl rfl rfl (by kernel_rfl) (H.sel [0, 1, 2, 3, 4] rfl rfl) (fun w H => (r_move)) (wa_take (i := 7) (l' := #[true, true, true, true, true, true, true, true, false, false, false]) rfl rfl rfl (by kernel_rfl) (H.sel [0, 1, 2, 3, 4] rfl rfl) (fun w H => (r_extract rfl rfl)) (wa_take (i := 8) (l' := #[true, true, true, true, true, true, true, true, true, false, false]) rfl rfl rfl (by kernel_rfl) (H.sel [0, 1, 2, 3, 4] rfl rfl) (fun w H => (r_extract rfl rfl)) (wa_oneV (i := 9) (l' := #[true, true, true, true, true, true, true, true, true, true, false]) rfl rfl rfl (by kernel_rfl) ((H.sel [0, 1, 2, 3, 4] rfl rfl)) (sg v146 rfl) (wa_take (i := 10) (l' := #[true, true, true, true, true, true, true, true, true, true, true]) rfl rfl rfl (by kernel_rfl) (H.sel [0, 1, 2, 3, 4] rfl rfl) (fun w H => (sg (.int .i64 x144.2) rfl)) (wa_done (by kernel_rfl) (n_thn (wc_region (v_ rfl (mv v119 rfl) (v_ rfl (mv v146 rfl) ?_))))))))))⟩⟩
            obtain ⟨p147, n148, c149, rfl⟩ := own_form (H.get 5 rfl)
            refine e_ rfl (y_bsB (l := [(.slice p147 n148 c149)]) sl_92 H rfl (by decide) ⟨rfl, rfl, rfl, trivial⟩ (by decide) (fun b150 w H => ?_))
            obtain ⟨g153, E⟩ := grd_some E
            refine e_ rfl (y_appRow sl_92 H 4 5 rfl rfl rfl (lit_hdr (H.get 6 rfl)) rfl rfl g153 (by unfold maxLen; omega) (fun v151 us152 w H => (v_ rfl (sg v151 rfl) (wl_nil (n_bk (n_thn (wc_region (v_ rfl (mv (.int .i64 x122) rfl) (v_ rfl (r_add rfl rfl) (v_ rfl (sg (.int .i64 (IntKind.i64.wrap (x122 + 1))) rfl) (wl_nil ?_)))))))))))
            exact ⟨k137, Nat.lt_succ_self _, _, _, _, _, _, Nat.le_of_succ_le hk138, E, upds_eq ⟨rfl, rfl, rfl, rfl, rfl, rfl, rfl, rfl, rfl, trivial⟩, H.sel [0, 1, 2, 3, 4] rfl rfl⟩
          · have E := iF c141 E
            refine wc_exit (x_thn (x_thn (x_bk ?_)))
            exact ⟨k137, _, _, _, _, by omega, E, upds_eq ⟨rfl, rfl, rfl, rfl, rfl, rfl, rfl, trivial⟩, H⟩
        rintro t w ⟨k89, l87, v85, us86, t88, hk90, E, rfl, H⟩
        unfold ref22_Encode.j0 at E
        refine rg (v_ rfl (r_loadB (l := [.int .i64 a0.1, .int .i64 a0.2.1, .int .i64 a0.2.2]) ag_23 (H.get 0 rfl) rfl rfl rfl) (v_ rfl (mv (.int .i64 a1) rfl) (v_ rfl (mv v85 rfl) ?_)))
        obtain ⟨x154, E155, E⟩ := bind_some E
        refine e_ rfl (y_callL en_50 rfl ((ref21_Weave.calls (H.own 4 rfl (rows_rd (H.get 4 rfl))) E155).mono ?_))
        rintro _ w ⟨v156, rfl, K⟩
        have H := H.app K
        refine ⟨_, rfl, (v_ rfl (r_move) (v_ rfl (r_extract rfl rfl) (v_ rfl (r_extract rfl rfl) (v_ rfl (sg v156 rfl) (v_ rfl (sg (.int .i64 x154.2) rfl) (nl (rg (v_ rfl (mv v17 rfl) (v_ rfl (mv v156 rfl) ?_)))))))))⟩
        obtain ⟨g158, E⟩ := grd_some E
        refine e_ rfl (y_app sl_42 H 2 rfl (own_rd (H.get 5 rfl)) rfl rfl (by omega) (by unfold maxLen; omega) (fun v157 w H => (v_ rfl (sg v157 rfl) (v_ rfl (sg (.int .i64 0) rfl) (nl (wc_ret ?_))))))
        cases E
        exact ⟨.inl rfl, _, tk0 rfl ⟨resN rfl (rv_t (rv_t rv_nil)), _, rfl, H.sub1 2 rfl⟩⟩
end Go.Proofs.Ythfhhnlnlcbckaa.Gw
