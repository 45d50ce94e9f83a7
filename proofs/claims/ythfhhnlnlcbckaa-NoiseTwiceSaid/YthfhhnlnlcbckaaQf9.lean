/- erratum/erratumlaw23.NoiseNone -/
/- PRINTED by gwmain.py of this project. -/
import Derived.Test.YthfhhnlnlcbckaaQ0
import Derived.Test.YthfhhnlnlcbckaaQf18
import Derived.Test.YthfhhnlnlcbckaaQf19
import Derived.Test.YthfhhnlnlcbckaaQf22
import Derived.Test.YthfhhnlnlcbckaaQf23
namespace Go.Proofs.Ythfhhnlnlcbckaa.Gw
open Go Go.RowKit
set_option linter.unusedVariables false
set_option linter.unusedSimpArgs false
def law23_NoiseNone.j0 (l0r : List Int → (List (Int × Int × Bool × Bool)) → Int → Int → Int → (List (Int × Int × Bool × Bool)) → Int → Option (Bool)) (k : Nat) (a0 : List Int) (a1 : List (Int × Int × Bool × Bool)) (a2 : Int) (a3 : Int) (a4 : Int) (x10 : Bool) : Option (Bool) := bif x10 then ((law23_known.f k).bind fun x16 => some x16) else (l0r a0 a1 a2 a3 a4 ([] : List (Int × Int × Bool × Bool)) 0)
def law23_NoiseNone.j1 (l1r : List Int → Int → Int → Int → (List Int × List Int) → Bool → Int → Option (Bool)) (k : Nat) (a0 : List Int) (a2 : Int) (a3 : Int) (a4 : Int) (l89 : List (Int × Int × Bool × Bool)) : Option (Bool) := (noise_Apply.f k a0 l89).bind fun x163 => l1r a0 a2 a3 a4 x163 (decide ((x163.1.length : Int) = (a0.length : Int))) 0
def law23_NoiseNone.j2 (k : Nat) (a2 : Int) (a3 : Int) (a4 : Int) (x163 : List Int × List Int) (x196 : Bool) : Option (Bool) := (law18_Small.f a2 a3 a4).bind fun x229 => (law23_known.f k).bind fun x233 => bif x233 then (bif x196 then (bif decide ((x163.2.length : Int) = 0) then ((noise_Bears.f k (x229.1, x229.2.1, x229.2.2) ([] : List (List Int))).bind fun x238 => bif x238 then ((noise_Bears.f k (x229.1, 0, x229.2.2) ([] : List (List Int))).bind fun x241 => bif !x241 then ((noise_Bears.f k (x229.1, x229.2.1, x229.2.2) ([[0]])).bind fun x249 => bif !x249 then ((noise_Bears.f k (x229.1, x229.2.1, x229.2.2) ([[0, IntKind.i64.wrap (x229.1 - x229.2.1)]])).bind fun x257 => bif x257 then ((noise_Bears.f k (x229.1, x229.2.1, x229.2.2) ([[0, IntKind.i64.wrap ((IntKind.i64.wrap (x229.1 - x229.2.1)) + 1)]])).bind fun x265 => some (!x265)) else (some false)) else (some false)) else (some false)) else (some false)) else (some false)) else (some false)) else (some false)
mutual
def law23_NoiseNone.l0 : Nat → List Int → (List (Int × Int × Bool × Bool)) → Int → Int → Int → (List (Int × Int × Bool × Bool)) → Int → Option (Bool)
  | 0, _, _, _, _, _, _, _ => none
  | k + 1, a0, a1, a2, a3, a4, l126, x127 => bif decide (x127 < (a1.length : Int)) then (grd (decide ((0 : Int) ≤ x127 ∧ x127 < (a1.length : Int))) (bif decide (0 ≤ (at_ (0, 0, false, false) a1 x127).1) then (bif decide ((at_ (0, 0, false, false) a1 x127).1 < (a0.length : Int)) then (grd (decide ((l126.length + ([((at_ (0, 0, false, false) a1 x127).1, (at_ (0, 0, false, false) a1 x127).2.1, false, false)]).length) * 16 ≤ 140737488355328)) (law23_NoiseNone.l0 k a0 a1 a2 a3 a4 (l126 ++ ([((at_ (0, 0, false, false) a1 x127).1, (at_ (0, 0, false, false) a1 x127).2.1, false, false)])) (IntKind.i64.wrap (x127 + 1)))) else (grd (decide ((l126.length + ([((at_ (0, 0, false, false) a1 x127).1, (at_ (0, 0, false, false) a1 x127).2.1, (at_ (0, 0, false, false) a1 x127).2.2.1, (at_ (0, 0, false, false) a1 x127).2.2.2)]).length) * 16 ≤ 140737488355328)) (law23_NoiseNone.l0 k a0 a1 a2 a3 a4 (l126 ++ ([((at_ (0, 0, false, false) a1 x127).1, (at_ (0, 0, false, false) a1 x127).2.1, (at_ (0, 0, false, false) a1 x127).2.2.1, (at_ (0, 0, false, false) a1 x127).2.2.2)])) (IntKind.i64.wrap (x127 + 1))))) else (grd (decide ((l126.length + ([((at_ (0, 0, false, false) a1 x127).1, (at_ (0, 0, false, false) a1 x127).2.1, (at_ (0, 0, false, false) a1 x127).2.2.1, (at_ (0, 0, false, false) a1 x127).2.2.2)]).length) * 16 ≤ 140737488355328)) (law23_NoiseNone.l0 k a0 a1 a2 a3 a4 (l126 ++ ([((at_ (0, 0, false, false) a1 x127).1, (at_ (0, 0, false, false) a1 x127).2.1, (at_ (0, 0, false, false) a1 x127).2.2.1, (at_ (0, 0, false, false) a1 x127).2.2.2)])) (IntKind.i64.wrap (x127 + 1)))))) else (law23_NoiseNone.j1 (law23_NoiseNone.l1 k) k a0 a2 a3 a4 l126)
def law23_NoiseNone.l1 : Nat → List Int → Int → Int → Int → (List Int × List Int) → Bool → Int → Option (Bool)
  | 0, _, _, _, _, _, _, _ => none
  | k + 1, a0, a2, a3, a4, x163, x208, x209 => bif decide (x209 < (x163.1.length : Int)) then (bif x208 then (grd (decide ((0 : Int) ≤ x209 ∧ x209 < (x163.1.length : Int))) (grd (decide ((0 : Int) ≤ x209 ∧ x209 < (a0.length : Int))) (law23_NoiseNone.l1 k a0 a2 a3 a4 x163 (decide (at_ 0 x163.1 x209 = at_ 0 a0 x209)) (IntKind.i64.wrap (x209 + 1))))) else (law23_NoiseNone.j2 k a2 a3 a4 x163 x208)) else (law23_NoiseNone.j2 k a2 a3 a4 x163 x208)
end
def law23_NoiseNone.f (k : Nat) (a0 : List Int) (a1 : List (Int × Int × Bool × Bool)) (a2 : Int) (a3 : Int) (a4 : Int) : Option (Bool) := bif decide (200 < (a0.length : Int)) then (law23_NoiseNone.j0 (law23_NoiseNone.l0 k) k a0 a1 a2 a3 a4 true) else (law23_NoiseNone.j0 (law23_NoiseNone.l0 k) k a0 a1 a2 a3 a4 (decide (40 < (a1.length : Int))))
set_option maxRecDepth 100000 in
set_option maxHeartbeats 4000000 in
theorem law23_NoiseNone.calls {w0 : World} {k : Nat} {a0 : List Int} {a1 : List (Int × Int × Bool × Bool)} {a2 : Int} {a3 : Int} {a4 : Int} {v0_ : Value} {v1_ : Value} {r : Bool} (h0 : Rd (.of (.int .u8)) w0 (Ol no w0) v0_ a0) (h1 : Rd (.of (.pr (.int .i64) (.pr (.int .u8) (.pr .bool .bool)))) w0 (Ol no w0) v1_ a1) (E : law23_NoiseNone.f k a0 a1 a2 a3 a4 = some r) :
    Calls Try.prog 9 #[v0_, v1_, .int .u8 a2, .int .u8 a3, .int .u8 a4] w0 fun e w' => e = .returned (.bool r) ∧ St no w0 w' [] := by
  have H := St.nil no w0
  unfold law23_NoiseNone.f at E
  refine calls_of_wc (N := 139) (args := [v0_, v1_, .int .u8 a2, .int .u8 a3, .int .u8 a4]) Try.func9 rfl rfl (by simp) ?_
  refine rg (v_ rfl (sg (.bool false) rfl) (nl (wc_seq ?_)))
  refine wc_seqJ (fun t w => ∃ (k12 : Nat) (x10 : Bool) (t11 : Fr), k12 ≤ k ∧ law23_NoiseNone.j0 (law23_NoiseNone.l0 k12) k12 a0 a1 a2 a3 a4 x10 = some r ∧ t = upds t11 [(0, v0_), (1, v1_), (2, .int .u8 a2), (3, .int .u8 a3), (4, .int .u8 a4), (10, .bool false), (27, .bool x10)] ∧ St no w0 w []) ?_ ?_
  · refine wc_region (v_ rfl (mv v0_ rfl) (v_ rfl (r_lenR ul_42 (H.rd h0) rfl) (v_ rfl (r_gtr rfl rfl) (v_ rfl (mv (.bool (decide (200 < (a0.length : Int)))) rfl) ?_))))
    rcases Bool.eq_false_or_eq_true (decide (200 < (a0.length : Int))) with c14 | c14
    · have E := iT c14 E
      refine off_ c14 rfl rfl rfl (off_ c14 rfl rfl rfl (off_ c14 rfl rfl rfl (v_ rfl (pT (.bool true) rfl rfl c14) (wl_nil ?_))))
      exact ⟨k, _, _, Nat.le_refl _, E, upds_eq ⟨rfl, rfl, rfl, rfl, rfl, rfl, rfl, trivial⟩, H⟩
    · have E := iF c14 E
      refine on_ c14 rfl rfl (mv v1_ rfl) (on_ c14 rfl rfl (r_lenR ul_43 (H.rd h1) rfl) (on_ c14 rfl rfl (r_gtr rfl rfl) (v_ rfl (pF (.bool (decide (40 < (a1.length : Int)))) rfl rfl c14) (wl_nil ?_))))
      exact ⟨k, _, _, Nat.le_refl _, E, upds_eq ⟨rfl, rfl, rfl, rfl, rfl, rfl, rfl, trivial⟩, H⟩
  rintro t w ⟨k12, x10, t11, hk13, E, rfl, H⟩
  unfold law23_NoiseNone.j0 at E
  refine wc_cond rfl (fun c15 => ?_) (fun c15 => ?_)
  · have E := iT c15 E
    refine rg ?_
    obtain ⟨x16, E17, E⟩ := bind_some E
    refine e_ rfl (y_callL en_18 rfl ((law23_known.calls E17).mono ?_))
    rintro _ w ⟨rfl, K⟩
    have H := H.app K
    refine ⟨_, rfl, (v_ rfl (sg (.bool x16) rfl) (nl (wc_ret ?_)))⟩
    cases E
    exact (r_thn ⟨.inl rfl, _, resN rfl (rv_t rv_nil), rfl, H.sub0⟩)
  · have E := iF c15 E
    refine wc_skip (n_thn (rg (v_ rfl (sg (.slice none 0 0) rfl) (nl ?_))))
    refine wc_seqJ (fun t w => ∃ (k91 : Nat) (l89 : List (Int × Int × Bool × Bool)) (v88 : Value) (t90 : Fr), k91 ≤ k12 ∧ law23_NoiseNone.j1 (law23_NoiseNone.l1 k91) k91 a0 a2 a3 a4 l89 = some r ∧ t = upds t90 [(0, v0_), (2, .int .u8 a2), (3, .int .u8 a3), (4, .int .u8 a4), (10, .bool false), (11, v88)] ∧ St no w0 w [.own (.pr (.int .i64) (.pr (.int .u8) (.pr .bool .bool))) 48 v88 l89]) ?_ ?_
    · refine rg (v_ rfl (sg (.int .i64 0) rfl) (nl (wc_block ?_)))
      have H := H.nilOwn (.pr (.int .i64) (.pr (.int .u8) (.pr .bool .bool))) 48
      refine wc_loop (fun kk t w => ∃ (l126 : List (Int × Int × Bool × Bool)) (x127 : Int) (v125 : Value) (t146 : Fr), kk ≤ k12 ∧ law23_NoiseNone.l0 kk a0 a1 a2 a3 a4 l126 x127 = some r ∧ t = upds t146 [(0, v0_), (1, v1_), (2, .int .u8 a2), (3, .int .u8 a3), (4, .int .u8 a4), (10, .bool false), (11, v125), (12, .int .i64 x127)] ∧ St no w0 w [.own (.pr (.int .i64) (.pr (.int .u8) (.pr .bool .bool))) 48 v125 l126]) k12 ?_ ?_
      · exact ⟨_, _, _, _, Nat.le_refl _, E, upds_eq ⟨rfl, rfl, rfl, rfl, rfl, rfl, rfl, rfl, trivial⟩, H⟩
      rintro kk t w ⟨l126, x127, v125, t146, hk145, E, rfl, H⟩
      obtain ⟨k144, rfl⟩ | rfl : (∃ k', kk = k' + 1) ∨ kk = 0 := by cases kk; exact .inr rfl; exact .inl ⟨_, rfl⟩
      rotate_left
      · cases E
      rw [law23_NoiseNone.l0] at E
      refine wc_seq (rg (v_ rfl (mv (.int .i64 x127) rfl) (v_ rfl (mv v1_ rfl) (v_ rfl (r_lenR ul_43 (H.rd h1) rfl) (v_ rfl (r_lss rfl rfl) (nl ?_))))))
      refine wc_cond rfl (fun c148 => ?_) (fun c148 => ?_)
      · have E := iT c148 E
        refine wc_skip (n_thn (wc_seq (wc_block (rg (v_ rfl (mv v1_ rfl) (v_ rfl (mv (.int .i64 x127) rfl) ?_))))))
        obtain ⟨⟨g149, g150⟩, E⟩ := grd_some E
        refine v_ rfl (r_idx sl_43 (H.rd h1) rfl rfl g149 g150) (v_ rfl (r_ldA (z := (0, 0, false, false)) ag_48 (H.rd h1) g149 g150 rfl rfl) (e_ rfl (y_allocS zr_48 H (fun b151 w H => (s_ (y_storeBA sz_48 H 1 rfl rfl rfl rfl rfl rfl (fun w H => (nl (wc_seq (rg (v_ rfl (r_faddr fa_48_0 rfl) (v_ rfl (r_load sc_3 rfl (blk_cell (H.get 1 rfl) rfl)) (v_ rfl (r_geq rfl rfl) (v_ rfl (mv (.bool (decide (0 ≤ (at_ (0, 0, false, false) a1 x127).1))) rfl) ?_))))))))))))))
        rcases Bool.eq_false_or_eq_true (decide (0 ≤ (at_ (0, 0, false, false) a1 x127).1)) with c152 | c152
        · have E := iT c152 E
          refine on_ c152 rfl rfl (r_faddr fa_48_0 rfl) (on_ c152 rfl rfl (r_load sc_3 rfl (blk_cell (H.get 1 rfl) rfl)) (on_ c152 rfl rfl (mv v0_ rfl) (on_ c152 rfl rfl (r_lenR ul_42 (H.rd h0) rfl) (on_ c152 rfl rfl (r_lss rfl rfl) (v_ rfl (pT (.bool (decide ((at_ (0, 0, false, false) a1 x127).1 < (a0.length : Int)))) rfl rfl c152) (nl ?_))))))
          refine wc_cond rfl (fun c153 => ?_) (fun c153 => ?_)
          · have E := iT c153 E
            refine rg (v_ rfl (r_faddr fa_48_2 rfl) (s_ (y_storeB sz_4 H 1 rfl rfl rfl rfl rfl (fun w H => (nl (wc_region (v_ rfl (r_faddr fa_48_3 rfl) (s_ (y_storeB sz_4 H 1 rfl rfl rfl rfl rfl (fun w H => (nl (wc_region (v_ rfl (mv v125 rfl) (v_ rfl (r_loadB (l := [.int .i64 ((at_ (0, 0, false, false) a1 x127).1), .int .u8 ((at_ (0, 0, false, false) a1 x127).2.1), .bool false, .bool false]) ag_48 (H.get 1 rfl) rfl rfl rfl) (e_ rfl (y_bsL (e := (.pr (.int .i64) (.pr (.int .u8) (.pr .bool .bool)))) (l := [((at_ (0, 0, false, false) a1 x127).1, (at_ (0, 0, false, false) a1 x127).2.1, false, false)]) sl_43 H rfl (by decide) ⟨rfl, rfl, trivial⟩ (by decide) (fun v154 w H => ?_)))))))))))))))))
            have H : St no w0 w [.own (.pr (.int .i64) (.pr (.int .u8) (.pr .bool .bool))) 48 v125 l126, .blk b151 #[.int .i64 ((at_ (0, 0, false, false) a1 x127).1), .int .u8 ((at_ (0, 0, false, false) a1 x127).2.1), .bool false, .bool false] 48, .own (.pr (.int .i64) (.pr (.int .u8) (.pr .bool .bool))) 48 v154 ([((at_ (0, 0, false, false) a1 x127).1, (at_ (0, 0, false, false) a1 x127).2.1, false, false)])] := H
            obtain ⟨g156, E⟩ := grd_some E
            refine e_ rfl (y_app sl_43 H 0 rfl (own_rd (H.get 2 rfl)) rfl rfl (by omega) (by unfold maxLen; omega) (fun v155 w H => (v_ rfl (sg v155 rfl) (wl_nil (n_bk (n_thn (wc_region (v_ rfl (mv (.int .i64 x127) rfl) (v_ rfl (r_add rfl rfl) (v_ rfl (sg (.int .i64 (IntKind.i64.wrap (x127 + 1))) rfl) (wl_nil ?_)))))))))))
            exact ⟨k144, Nat.lt_succ_self _, _, _, _, _, Nat.le_of_succ_le hk145, E, upds_eq ⟨rfl, rfl, rfl, rfl, rfl, rfl, rfl, rfl, trivial⟩, H.sel [0] rfl rfl⟩
          · have E := iF c153 E
            refine wc_skip (n_thn (wc_region (v_ rfl (mv v125 rfl) (v_ rfl (r_loadB (l := [.int .i64 ((at_ (0, 0, false, false) a1 x127).1), .int .u8 ((at_ (0, 0, false, false) a1 x127).2.1), .bool ((at_ (0, 0, false, false) a1 x127).2.2.1), .bool ((at_ (0, 0, false, false) a1 x127).2.2.2)]) ag_48 (H.get 1 rfl) rfl rfl rfl) (e_ rfl (y_bsL (e := (.pr (.int .i64) (.pr (.int .u8) (.pr .bool .bool)))) (l := [((at_ (0, 0, false, false) a1 x127).1, (at_ (0, 0, false, false) a1 x127).2.1, (at_ (0, 0, false, false) a1 x127).2.2.1, (at_ (0, 0, false, false) a1 x127).2.2.2)]) sl_43 H rfl (by decide) ⟨rfl, rfl, trivial⟩ (by decide) (fun v157 w H => ?_)))))))
            obtain ⟨g159, E⟩ := grd_some E
            refine e_ rfl (y_app sl_43 H 0 rfl (own_rd (H.get 2 rfl)) rfl rfl (by omega) (by unfold maxLen; omega) (fun v158 w H => (v_ rfl (sg v158 rfl) (wl_nil (n_bk (n_thn (wc_region (v_ rfl (mv (.int .i64 x127) rfl) (v_ rfl (r_add rfl rfl) (v_ rfl (sg (.int .i64 (IntKind.i64.wrap (x127 + 1))) rfl) (wl_nil ?_)))))))))))
            exact ⟨k144, Nat.lt_succ_self _, _, _, _, _, Nat.le_of_succ_le hk145, E, upds_eq ⟨rfl, rfl, rfl, rfl, rfl, rfl, rfl, rfl, trivial⟩, H.sel [0] rfl rfl⟩
        · have E := iF c152 E
          refine off_ c152 rfl rfl rfl (off_ c152 rfl rfl rfl (off_ c152 rfl rfl rfl (off_ c152 rfl rfl rfl (off_ c152 rfl rfl rfl (v_ rfl (pF (.bool false) rfl rfl c152) (nl (wc_condF rfl (wc_skip (n_thn (wc_region (v_ rfl (mv v125 rfl) (v_ rfl (r_loadB (l := [.int .i64 ((at_ (0, 0, false, false) a1 x127).1), .int .u8 ((at_ (0, 0, false, false) a1 x127).2.1), .bool ((at_ (0, 0, false, false) a1 x127).2.2.1), .bool ((at_ (0, 0, false, false) a1 x127).2.2.2)]) ag_48 (H.get 1 rfl) rfl rfl rfl) (e_ rfl (y_bsL (e := (.pr (.int .i64) (.pr (.int .u8) (.pr .bool .bool)))) (l := [((at_ (0, 0, false, false) a1 x127).1, (at_ (0, 0, false, false) a1 x127).2.1, (at_ (0, 0, false, false) a1 x127).2.2.1, (at_ (0, 0, false, false) a1 x127).2.2.2)]) sl_43 H rfl (by decide) ⟨rfl, rfl, trivial⟩ (by decide) (fun v160 w H => ?_)))))))))))))))
          obtain ⟨g162, E⟩ := grd_some E
          refine e_ rfl (y_app sl_43 H 0 rfl (own_rd (H.get 2 rfl)) rfl rfl (by omega) (by unfold maxLen; omega) (fun v161 w H => (v_ rfl (sg v161 rfl) (wl_nil (n_bk (n_thn (wc_region (v_ rfl (mv (.int .i64 x127) rfl) (v_ rfl (r_add rfl rfl) (v_ rfl (sg (.int .i64 (IntKind.i64.wrap (x127 + 1))) rfl) (wl_nil ?_)))))))))))
          exact ⟨k144, Nat.lt_succ_self _, _, _, _, _, Nat.le_of_succ_le hk145, E, upds_eq ⟨rfl, rfl, rfl, rfl, rfl, rfl, rfl, rfl, trivial⟩, H.sel [0] rfl rfl⟩
      · have E := iF c148 E
        refine wc_exit (x_thn (x_thn (x_bk ?_)))
        exact ⟨k144, _, _, _, by omega, E, upds_eq ⟨rfl, rfl, rfl, rfl, rfl, rfl, trivial⟩, H⟩
    rintro t w ⟨k91, l89, v88, t90, hk92, E, rfl, H⟩
    unfold law23_NoiseNone.j1 at E
    refine rg (v_ rfl (mv v0_ rfl) (v_ rfl (mv v88 rfl) ?_))
    obtain ⟨x163, E164, E⟩ := bind_some E
    refine e_ rfl (y_callL en_19 rfl ((noise_Apply.calls (H.arg (H.rd h0)) (H.own 0 rfl (own_rd (H.get 0 rfl))) E164).mono ?_))
    rintro _ w ⟨v165, v166, rfl, K⟩
    have H := H.app K
    refine ⟨_, rfl, (v_ rfl (r_move) (v_ rfl (r_extract rfl rfl) (v_ rfl (r_extract rfl rfl) (v_ rfl (sg v165 rfl) (v_ rfl (sg v166 rfl) (nl (rg (v_ rfl (mv v165 rfl) (v_ rfl (r_lenR ul_42 (own_rd (H.get 1 rfl)) rfl) (v_ rfl (mv v0_ rfl) (v_ rfl (r_lenR ul_42 (H.rd h0) rfl) (v_ rfl (r_eql rfl rfl) (v_ rfl (sg (.bool (decide ((x163.1.length : Int) = (a0.length : Int)))) rfl) (nl ?_))))))))))))))⟩
    refine wc_seqJ (fun t w => ∃ (k198 : Nat) (x196 : Bool) (t197 : Fr), k198 ≤ k91 ∧ law23_NoiseNone.j2 k198 a2 a3 a4 x163 x196 = some r ∧ t = upds t197 [(2, .int .u8 a2), (3, .int .u8 a3), (4, .int .u8 a4), (10, .bool false), (15, v166), (16, .bool x196)] ∧ St no w0 w [.own (.pr (.int .i64) (.pr (.int .u8) (.pr .bool .bool))) 48 v88 l89, .own (.int .u8) 5 v165 x163.1, .own (.int .i64) 3 v166 x163.2]) ?_ ?_
    · refine rg (v_ rfl (sg (.int .i64 0) rfl) (nl (wc_block ?_)))
      refine wc_loop (fun kk t w => ∃ (x208 : Bool) (x209 : Int) (t220 : Fr), kk ≤ k91 ∧ law23_NoiseNone.l1 kk a0 a2 a3 a4 x163 x208 x209 = some r ∧ t = upds t220 [(0, v0_), (2, .int .u8 a2), (3, .int .u8 a3), (4, .int .u8 a4), (10, .bool false), (14, v165), (15, v166), (16, .bool x208), (17, .int .i64 x209)] ∧ St no w0 w [.own (.pr (.int .i64) (.pr (.int .u8) (.pr .bool .bool))) 48 v88 l89, .own (.int .u8) 5 v165 x163.1, .own (.int .i64) 3 v166 x163.2]) k91 ?_ ?_
      · exact ⟨_, _, _, Nat.le_refl _, E, upds_eq ⟨rfl, rfl, rfl, rfl, rfl, rfl, rfl, rfl, rfl, trivial⟩, H⟩
      rintro kk t w ⟨x208, x209, t220, hk219, E, rfl, H⟩
      obtain ⟨k218, rfl⟩ | rfl : (∃ k', kk = k' + 1) ∨ kk = 0 := by cases kk; exact .inr rfl; exact .inl ⟨_, rfl⟩
      rotate_left
      · cases E
      rw [law23_NoiseNone.l1] at E
      refine wc_seq (rg (v_ rfl (mv (.int .i64 x209) rfl) (v_ rfl (mv v165 rfl) (v_ rfl (r_lenR ul_42 (own_rd (H.get 1 rfl)) rfl) (v_ rfl (r_lss rfl rfl) (v_ rfl (mv (.bool (decide (x209 < (x163.1.length : Int)))) rfl) ?_))))))
      rcases Bool.eq_false_or_eq_true (decide (x209 < (x163.1.length : Int))) with c223 | c223
      · have E := iT c223 E
        refine on_ c223 rfl rfl (mv (.bool x208) rfl) (v_ rfl (pT (.bool x208) rfl rfl c223) (nl ?_))
        refine wc_cond rfl (fun c224 => ?_) (fun c224 => ?_)
        · have E := iT c224 E
          refine wc_skip (n_thn (wc_seq (wc_block (wc_drawnS (ds := []) mo H rfl rfl ?_))))
          have H := H.drew
          refine wa_take (i := 0) (l' := #[true, false, false, false, false, false, false, false, false, false]) rfl rfl rfl (by kernel_rfl) H (fun w H => (mv v165 rfl)) (wa_take (i := 1) (l' := #[true, true, false, false, false, false, false, false, false, false]) rfl rfl rfl (by kernel_rfl) H (fun w H => (mv (.int .i64 x209) rfl)) ?_)
          obtain ⟨⟨g225, g226⟩, E⟩ := grd_some E
          refine wa_take (i := 2) (l' := #[true, true, true, false, false, false, false, false, false, false]) rfl rfl rfl (by kernel_rfl) H (fun w H => (r_idx sl_42 (own_rd (H.get 1 rfl)) rfl rfl g225 g226)) (wa_take (i := 3) (l' := #[true, true, true, true, false, false, false, false, false, false]) rfl rfl rfl (by kernel_rfl) H (fun w H => (r_ldI sc_5 (own_rd (H.get 1 rfl)) g225 g226 rfl)) (wa_take (i := 4) (l' := #[true, true, true, true, true, false, false, false, false, false]) rfl rfl rfl (by kernel_rfl) H (fun w H => (mv v0_ rfl)) (wa_take (i := 5) (l' := #[true, true, true, true, true, true, false, false, false, false]) rfl rfl rfl (by kernel_rfl) H (fun w H => (mv (.int .i64 x209) rfl)) ?_)))
          obtain ⟨⟨g227, g228⟩, E⟩ := grd_some E
          refine wa_take (i := 6) (l' := #[true, true, true, true, true, true, true, false, false, false]) rfl rfl rfl (by kernel_rfl) H (fun w H => (r_idx sl_42 (H.rd h0) rfl rfl g227 g228)) (wa_take (i := 7) (l' := #[true, true, true, true, true, true, true, true, false, false]) rfl rfl rfl (by kernel_rfl) H (fun w H => (r_ldI sc_5 (H.rd h0) g227 g228 rfl)) (wa_take (i := 8) (l' := #[true, true, true, true, true, true, true, true, true, false]) rfl rfl rfl (by kernel_rfl) H (fun w H => (r_eql rfl rfl)) (wa_take (i := 9) (l' := #[true, true, true, true, true, true, true, true, true, true]) rfl rfl rfl (by kernel_rfl) H (fun w H => (sg (.bool (decide (at_ 0 x163.1 x209 = at_ 0 a0 x209))) rfl)) (wa_done (by kernel_rfl) (n_bk (n_thn (wc_region (v_ rfl (mv (.int .i64 x209) rfl) (v_ rfl (r_add rfl rfl) (v_ rfl (sg (.int .i64 (IntKind.i64.wrap (x209 + 1))) rfl) (wl_nil ?_)))))))))))
          exact ⟨k218, Nat.lt_succ_self _, _, _, _, Nat.le_of_succ_le hk219, E, upds_eq ⟨rfl, rfl, rfl, rfl, rfl, rfl, rfl, rfl, rfl, trivial⟩, H⟩
        · have E := iF c224 E
          refine wc_exit (x_thn (x_thn (x_bk ?_)))
          exact ⟨k218, _, _, by omega, E, upds_eq ⟨rfl, rfl, rfl, rfl, rfl, rfl, trivial⟩, H⟩
      · have E := iF c223 E
        refine off_ c223 rfl rfl rfl (v_ rfl (pF (.bool false) rfl rfl c223) (nl (wc_condF rfl (wc_exit (x_thn (x_thn (x_bk ?_)))))))
        exact ⟨k218, _, _, by omega, E, upds_eq ⟨rfl, rfl, rfl, rfl, rfl, rfl, trivial⟩, H⟩
    rintro t w ⟨k198, x196, t197, hk199, E, rfl, H⟩
    unfold law23_NoiseNone.j2 at E
    refine rg (v_ rfl (mv (.int .u8 a2) rfl) (v_ rfl (mv (.int .u8 a3) rfl) (v_ rfl (mv (.int .u8 a4) rfl) ?_)))
    obtain ⟨x229, E230, E⟩ := bind_some E
    refine e_ rfl (y_callL en_22 rfl ((law18_Small.calls E230).mono ?_))
    rintro _ w ⟨rfl, K⟩
    have H := H.app K
    refine ⟨_, rfl, (e_ rfl (y_allocS zr_23 H (fun b231 w H => (s_ (y_storeBA sz_23 H 3 rfl rfl rfl rfl rfl rfl (fun w H => (nl (rg (v_ rfl (r_loadB (l := [.int .i64 x229.1, .int .i64 x229.2.1, .int .i64 x229.2.2]) ag_23 (H.get 3 rfl) rfl rfl rfl) (e_ rfl (y_allocS zr_23 H (fun b232 w H => (s_ (y_storeBA sz_23 H 4 rfl rfl rfl rfl rfl rfl (fun w H => (nl (rg ?_)))))))))))))))))⟩
    have H : St no w0 w [.own (.pr (.int .i64) (.pr (.int .u8) (.pr .bool .bool))) 48 v88 l89, .own (.int .u8) 5 v165 x163.1, .own (.int .i64) 3 v166 x163.2, .blk b231 #[.int .i64 x229.1, .int .i64 x229.2.1, .int .i64 x229.2.2] 23, .blk b232 #[.int .i64 x229.1, .int .i64 x229.2.1, .int .i64 x229.2.2] 23] := H
    refine v_ rfl (r_faddr fa_23_1 rfl) (s_ (y_storeB sz_3 H 4 rfl rfl rfl rfl rfl (fun w H => (nl (rg ?_)))))
    obtain ⟨x233, E234, E⟩ := bind_some E
    refine e_ rfl (y_callL en_18 rfl ((law23_known.calls E234).mono ?_))
    rintro _ w ⟨rfl, K⟩
    have H := H.app K
    refine ⟨_, rfl, (v_ rfl (mv (.bool x233) rfl) ?_)⟩
    rcases Bool.eq_false_or_eq_true (x233) with c235 | c235
    · have E := iT c235 E
      refine on_ c235 rfl rfl (mv (.bool x196) rfl) (v_ rfl (pT (.bool x196) rfl rfl c235) (v_ rfl (mv (.bool x196) rfl) ?_))
      rcases Bool.eq_false_or_eq_true (x196) with c236 | c236
      · have E := iT c236 E
        refine on_ c236 rfl rfl (mv v166 rfl) (on_ c236 rfl rfl (r_lenR ul_44 (own_rd (H.get 2 rfl)) rfl) (on_ c236 rfl rfl (r_eql rfl rfl) (v_ rfl (pT (.bool (decide ((x163.2.length : Int) = 0))) rfl rfl c236) (v_ rfl (mv (.bool (decide ((x163.2.length : Int) = 0))) rfl) ?_))))
        rcases Bool.eq_false_or_eq_true (decide ((x163.2.length : Int) = 0)) with c237 | c237
        · have E := iT c237 E
          refine on_ c237 rfl rfl (r_loadB (l := [.int .i64 x229.1, .int .i64 x229.2.1, .int .i64 x229.2.2]) ag_23 (H.get 3 rfl) rfl rfl rfl) ?_
          obtain ⟨x238, E239, E⟩ := bind_some E
          refine wl_on rfl c237 rfl (y_callL en_23 rfl ((noise_Bears.calls (Rd.nil (.sl (.of (.int .i64))) _ _) E239).mono ?_))
          rintro _ w ⟨rfl, K⟩
          have H := H.app K
          refine ⟨_, rfl, (v_ rfl (pT (.bool x238) rfl rfl c237) (v_ rfl (mv (.bool x238) rfl) ?_))⟩
          rcases Bool.eq_false_or_eq_true (x238) with c240 | c240
          · have E := iT c240 E
            refine on_ c240 rfl rfl (r_loadB (l := [.int .i64 x229.1, .int .i64 0, .int .i64 x229.2.2]) ag_23 (H.get 4 rfl) rfl rfl rfl) ?_
            obtain ⟨x241, E242, E⟩ := bind_some E
            refine wl_on rfl c240 rfl (y_callL en_23 rfl ((noise_Bears.calls (Rd.nil (.sl (.of (.int .i64))) _ _) E242).mono ?_))
            rintro _ w ⟨rfl, K⟩
            have H := H.app K
            refine ⟨_, rfl, (on_ c240 rfl rfl (r_not rfl) (v_ rfl (pT (.bool (!x241)) rfl rfl c240) (v_ rfl (mv (.bool (!x241)) rfl) ?_)))⟩
            rcases Bool.eq_false_or_eq_true (!x241) with c243 | c243
            · have E := iT c243 E
              refine on_ c243 rfl rfl (r_loadB (l := [.int .i64 x229.1, .int .i64 x229.2.1, .int .i64 x229.2.2]) ag_23 (H.get 3 rfl) rfl rfl rfl) (wl_on rfl c243 rfl (y_bsL (e := (.int .i64)) (l := [0]) sl_44 H rfl (by decide) ⟨rfl, rfl, trivial⟩ (by decide) (fun v244 w H => ?_)))
              have H : St no w0 w [.own (.pr (.int .i64) (.pr (.int .u8) (.pr .bool .bool))) 48 v88 l89, .own (.int .u8) 5 v165 x163.1, .own (.int .i64) 3 v166 x163.2, .blk b231 #[.int .i64 x229.1, .int .i64 x229.2.1, .int .i64 x229.2.2] 23, .blk b232 #[.int .i64 x229.1, .int .i64 0, .int .i64 x229.2.2] 23, .own (.int .i64) 3 v244 ([0])] := H
              obtain ⟨p245, n246, c247, rfl⟩ := own_form (H.get 5 rfl)
              refine wl_on rfl c243 rfl (y_bsB (l := [(.slice p245 n246 c247)]) sl_53 H rfl (by decide) ⟨rfl, rfl, rfl, trivial⟩ (by decide) (fun b248 w H => ?_))
              obtain ⟨x249, E250, E⟩ := bind_some E
              refine wl_on rfl c243 rfl (y_callL en_23 rfl ((noise_Bears.calls (rd_rows (ls := [[0]]) H 6 rfl rfl rfl ⟨(H.own 5 rfl (own_rd (H.get 5 rfl))), trivial⟩) E250).mono ?_))
              rintro _ w ⟨rfl, K⟩
              have H := H.app K
              refine ⟨_, rfl, (on_ c243 rfl rfl (r_not rfl) (v_ rfl (pT (.bool (!x249)) rfl rfl c243) (v_ rfl (mv (.bool (!x249)) rfl) ?_)))⟩
              rcases Bool.eq_false_or_eq_true (!x249) with c251 | c251
              · have E := iT c251 E
                refine on_ c251 rfl rfl (r_loadB (l := [.int .i64 x229.1, .int .i64 x229.2.1, .int .i64 x229.2.2]) ag_23 (H.get 3 rfl) rfl rfl rfl) (on_ c251 rfl rfl (r_faddr fa_23_0 rfl) (on_ c251 rfl rfl (r_load sc_3 rfl (blk_cell (H.get 3 rfl) rfl)) (on_ c251 rfl rfl (r_faddr fa_23_1 rfl) (on_ c251 rfl rfl (r_load sc_3 rfl (blk_cell (H.get 3 rfl) rfl)) (on_ c251 rfl rfl (r_sub rfl rfl) (wl_on rfl c251 rfl (y_bsL (e := (.int .i64)) (l := [0, IntKind.i64.wrap (x229.1 - x229.2.1)]) sl_44 H rfl (by decide) ⟨rfl, rfl, rfl, rfl, trivial⟩ (by decide) (fun v252 w H => ?_))))))))
                obtain ⟨p253, n254, c255, rfl⟩ := own_form (H.get 7 rfl)
                refine wl_on rfl c251 rfl (y_bsB (l := [(.slice p253 n254 c255)]) sl_53 H rfl (by decide) ⟨rfl, rfl, rfl, trivial⟩ (by decide) (fun b256 w H => ?_))
                obtain ⟨x257, E258, E⟩ := bind_some E
                refine wl_on rfl c251 rfl (y_callL en_23 rfl ((noise_Bears.calls (rd_rows (ls := [[0, IntKind.i64.wrap (x229.1 - x229.2.1)]]) H 8 rfl rfl rfl ⟨(H.own 7 rfl (own_rd (H.get 7 rfl))), trivial⟩) E258).mono ?_))
                rintro _ w ⟨rfl, K⟩
                have H := H.app K
                refine ⟨_, rfl, ?_⟩
                have H : St no w0 w [.own (.pr (.int .i64) (.pr (.int .u8) (.pr .bool .bool))) 48 v88 l89, .own (.int .u8) 5 v165 x163.1, .own (.int .i64) 3 v166 x163.2, .blk b231 #[.int .i64 x229.1, .int .i64 x229.2.1, .int .i64 x229.2.2] 23, .blk b232 #[.int .i64 x229.1, .int .i64 0, .int .i64 x229.2.2] 23, .own (.int .i64) 3 (.slice p245 n246 c247) ([0]), .blk b248 #[(.slice p245 n246 c247)] 44, .own (.int .i64) 3 (.slice p253 n254 c255) ([0, IntKind.i64.wrap (x229.1 - x229.2.1)]), .blk b256 #[(.slice p253 n254 c255)] 44] := H
                refine v_ rfl (pT (.bool x257) rfl rfl c251) (v_ rfl (mv (.bool x257) rfl) ?_)
                rcases Bool.eq_false_or_eq_true (x257) with c259 | c259
                · have E := iT c259 E
                  refine on_ c259 rfl rfl (r_loadB (l := [.int .i64 x229.1, .int .i64 x229.2.1, .int .i64 x229.2.2]) ag_23 (H.get 3 rfl) rfl rfl rfl) (on_ c259 rfl rfl (r_faddr fa_23_0 rfl) (on_ c259 rfl rfl (r_load sc_3 rfl (blk_cell (H.get 3 rfl) rfl)) (on_ c259 rfl rfl (r_faddr fa_23_1 rfl) (on_ c259 rfl rfl (r_load sc_3 rfl (blk_cell (H.get 3 rfl) rfl)) (on_ c259 rfl rfl (r_sub rfl rfl) (on_ c259 rfl rfl (r_add rfl rfl) (wl_on rfl c259 rfl (y_bsL (e := (.int .i64)) (l := [0, IntKind.i64.wrap ((IntKind.i64.wrap (x229.1 - x229.2.1)) + 1)]) sl_44 H rfl (by decide) ⟨rfl, rfl, rfl, rfl, trivial⟩ (by decide) (fun v260 w H => ?_)))))))))
                  obtain ⟨p261, n262, c263, rfl⟩ := own_form (H.get 9 rfl)
                  refine wl_on rfl c259 rfl (y_bsB (l := [(.slice p261 n262 c263)]) sl_53 H rfl (by decide) ⟨rfl, rfl, rfl, trivial⟩ (by decide) (fun b264 w H => ?_))
                  obtain ⟨x265, E266, E⟩ := bind_some E
                  refine wl_on rfl c259 rfl (y_callL en_23 rfl ((noise_Bears.calls (rd_rows (ls := [[0, IntKind.i64.wrap ((IntKind.i64.wrap (x229.1 - x229.2.1)) + 1)]]) H 10 rfl rfl rfl ⟨(H.own 9 rfl (own_rd (H.get 9 rfl))), trivial⟩) E266).mono ?_))
                  rintro _ w ⟨rfl, K⟩
                  have H := H.app K
                  refine ⟨_, rfl, (on_ c259 rfl rfl (r_not rfl) (v_ rfl (pT (.bool (!x265)) rfl rfl c259) (v_ rfl (sg (.bool (!x265)) rfl) (nl (wc_ret ?_)))))⟩
                  cases E
                  exact ⟨.inl rfl, _, resN rfl (rv_t rv_nil), rfl, H.sub0⟩
                · have E := iF c259 E
                  refine off_ c259 rfl rfl rfl (off_ c259 rfl rfl rfl (off_ c259 rfl rfl rfl (off_ c259 rfl rfl rfl (off_ c259 rfl rfl rfl (off_ c259 rfl rfl rfl (off_ c259 rfl rfl rfl (off_ c259 rfl rfl rfl (off_ c259 rfl rfl rfl (off_ c259 rfl rfl rfl (off_ c259 rfl rfl rfl (v_ rfl (pF (.bool false) rfl rfl c259) (v_ rfl (sg (.bool false) rfl) (nl (wc_ret ?_))))))))))))))
                  cases E
                  exact ⟨.inl rfl, _, resN rfl (rv_t rv_nil), rfl, H.sub0⟩
              · have E := iF c251 E
                refine off_ c251 rfl rfl rfl (off_ c251 rfl rfl rfl (off_ c251 rfl rfl rfl (off_ c251 rfl rfl rfl (off_ c251 rfl rfl rfl (off_ c251 rfl rfl rfl (off_ c251 rfl rfl rfl (off_ c251 rfl rfl rfl (off_ c251 rfl rfl rfl (v_ rfl (pF (.bool false) rfl rfl c251) (v_ rfl (mv (.bool false) rfl) (off_ rfl rfl rfl rfl (off_ rfl rfl rfl rfl (off_ rfl rfl rfl rfl (off_ rfl rfl rfl rfl (off_ rfl rfl rfl rfl (off_ rfl rfl rfl rfl (off_ rfl rfl rfl rfl (off_ rfl rfl rfl rfl (off_ rfl rfl rfl rfl (off_ rfl rfl rfl rfl (off_ rfl rfl rfl rfl (v_ rfl (pF (.bool false) rfl rfl rfl) (v_ rfl (sg (.bool false) rfl) (nl (wc_ret ?_)))))))))))))))))))))))))
                cases E
                exact ⟨.inl rfl, _, resN rfl (rv_t rv_nil), rfl, H.sub0⟩
            · have E := iF c243 E
              refine off_ c243 rfl rfl rfl (off_ c243 rfl rfl rfl (off_ c243 rfl rfl rfl (off_ c243 rfl rfl rfl (off_ c243 rfl rfl rfl (v_ rfl (pF (.bool false) rfl rfl c243) (v_ rfl (mv (.bool false) rfl) (off_ rfl rfl rfl rfl (off_ rfl rfl rfl rfl (off_ rfl rfl rfl rfl (off_ rfl rfl rfl rfl (off_ rfl rfl rfl rfl (off_ rfl rfl rfl rfl (off_ rfl rfl rfl rfl (off_ rfl rfl rfl rfl (off_ rfl rfl rfl rfl (v_ rfl (pF (.bool false) rfl rfl rfl) (v_ rfl (mv (.bool false) rfl) (off_ rfl rfl rfl rfl (off_ rfl rfl rfl rfl (off_ rfl rfl rfl rfl (off_ rfl rfl rfl rfl (off_ rfl rfl rfl rfl (off_ rfl rfl rfl rfl (off_ rfl rfl rfl rfl (off_ rfl rfl rfl rfl (off_ rfl rfl rfl rfl (off_ rfl rfl rfl rfl (off_ rfl rfl rfl rfl (v_ rfl (pF (.bool false) rfl rfl rfl) (v_ rfl (sg (.bool false) rfl) (nl (wc_ret ?_))))))))))))))))))))))))))))))))
              cases E
              exact ⟨.inl rfl, _, resN rfl (rv_t rv_nil), rfl, H.sub0⟩
          · have E := iF c240 E
            refine off_ c240 rfl rfl rfl (off_ c240 rfl rfl rfl (off_ c240 rfl rfl rfl (v_ rfl (pF (.bool false) rfl rfl c240) (v_ rfl (mv (.bool false) rfl) (off_ rfl rfl rfl rfl (off_ rfl rfl rfl rfl (off_ rfl rfl rfl rfl (off_ rfl rfl rfl rfl (off_ rfl rfl rfl rfl (v_ rfl (pF (.bool false) rfl rfl rfl) (v_ rfl (mv (.bool false) rfl) (off_ rfl rfl rfl rfl (off_ rfl rfl rfl rfl (off_ rfl rfl rfl rfl (off_ rfl rfl rfl rfl (off_ rfl rfl rfl rfl (off_ rfl rfl rfl rfl (off_ rfl rfl rfl rfl (off_ rfl rfl rfl rfl (off_ rfl rfl rfl rfl (v_ rfl (pF (.bool false) rfl rfl rfl) (v_ rfl (mv (.bool false) rfl) (off_ rfl rfl rfl rfl (off_ rfl rfl rfl rfl (off_ rfl rfl rfl rfl (off_ rfl rfl rfl rfl (off_ rfl rfl rfl rfl (off_ rfl rfl rfl rfl (off_ rfl rfl rfl rfl (off_ rfl rfl rfl rfl (off_ rfl rfl rfl rfl (off_ rfl rfl rfl rfl (off_ rfl rfl rfl rfl (v_ rfl (pF (.bool false) rfl rfl rfl) (v_ rfl (sg (.bool false) rfl) (nl (wc_ret ?_)))))))))))))))))))))))))))))))))))))
            cases E
            exact ⟨.inl rfl, _, resN rfl (rv_t rv_nil), rfl, H.sub0⟩
        · have E := iF c237 E
          refine off_ c237 rfl rfl rfl (off_ c237 rfl rfl rfl (v_ rfl (pF (.bool false) rfl rfl c237) (v_ rfl (mv (.bool false) rfl) (off_ rfl rfl rfl rfl (off_ rfl rfl rfl rfl (off_ rfl rfl rfl rfl (v_ rfl (pF (.bool false) rfl rfl rfl) (v_ rfl (mv (.bool false) rfl) (off_ rfl rfl rfl rfl (off_ rfl rfl rfl rfl (off_ rfl rfl rfl rfl (off_ rfl rfl rfl rfl (off_ rfl rfl rfl rfl (v_ rfl (pF (.bool false) rfl rfl rfl) (v_ rfl (mv (.bool false) rfl) (off_ rfl rfl rfl rfl (off_ rfl rfl rfl rfl (off_ rfl rfl rfl rfl (off_ rfl rfl rfl rfl (off_ rfl rfl rfl rfl (off_ rfl rfl rfl rfl (off_ rfl rfl rfl rfl (off_ rfl rfl rfl rfl (off_ rfl rfl rfl rfl (v_ rfl (pF (.bool false) rfl rfl rfl) (v_ rfl (mv (.bool false) rfl) (off_ rfl rfl rfl rfl (off_ rfl rfl rfl rfl (off_ rfl rfl rfl rfl (off_ rfl rfl rfl rfl (off_ rfl rfl rfl rfl (off_ rfl rfl rfl rfl (off_ rfl rfl rfl rfl (off_ rfl rfl rfl rfl (off_ rfl rfl rfl rfl (off_ rfl rfl rfl rfl (off_ rfl rfl rfl rfl (v_ rfl (pF (.bool false) rfl rfl rfl) (v_ rfl (sg (.bool false) rfl) (nl ?_))))))))))))))))))))))))))))))))))))))))
          refine wc_ret ?_
          cases E
          exact ⟨.inl rfl, _, resN rfl (rv_t rv_nil), rfl, H.sub0⟩
      · have E := iF c236 E
        refine off_ c236 rfl rfl rfl (off_ c236 rfl rfl rfl (off_ c236 rfl rfl rfl (v_ rfl (pF (.bool false) rfl rfl c236) (v_ rfl (mv (.bool false) rfl) (off_ rfl rfl rfl rfl (off_ rfl rfl rfl rfl (v_ rfl (pF (.bool false) rfl rfl rfl) (v_ rfl (mv (.bool false) rfl) (off_ rfl rfl rfl rfl (off_ rfl rfl rfl rfl (off_ rfl rfl rfl rfl (v_ rfl (pF (.bool false) rfl rfl rfl) (v_ rfl (mv (.bool false) rfl) (off_ rfl rfl rfl rfl (off_ rfl rfl rfl rfl (off_ rfl rfl rfl rfl (off_ rfl rfl rfl rfl (off_ rfl rfl rfl rfl (v_ rfl (pF (.bool false) rfl rfl rfl) (v_ rfl (mv (.bool false) rfl) (off_ rfl rfl rfl rfl (off_ rfl rfl rfl rfl (off_ rfl rfl rfl rfl (off_ rfl rfl rfl rfl (off_ rfl rfl rfl rfl (off_ rfl rfl rfl rfl (off_ rfl rfl rfl rfl (off_ rfl rfl rfl rfl (off_ rfl rfl rfl rfl (v_ rfl (pF (.bool false) rfl rfl rfl) (v_ rfl (mv (.bool false) rfl) (off_ rfl rfl rfl rfl (off_ rfl rfl rfl rfl (off_ rfl rfl rfl rfl (off_ rfl rfl rfl rfl (off_ rfl rfl rfl rfl (off_ rfl rfl rfl rfl (off_ rfl rfl rfl rfl (off_ rfl rfl rfl rfl (off_ rfl rfl rfl rfl ?_))))))))))))))))))))))))))))))))))))))))
        refine off_ rfl rfl rfl rfl (off_ rfl rfl rfl rfl (v_ rfl (pF (.bool false) rfl rfl rfl) (v_ rfl (sg (.bool false) rfl) (nl (wc_ret ?_)))))
        cases E
        exact ⟨.inl rfl, _, resN rfl (rv_t rv_nil), rfl, H.sub0⟩
    · have E := iF c235 E
      refine off_ c235 rfl rfl rfl (v_ rfl (pF (.bool false) rfl rfl c235) (v_ rfl (mv (.bool false) rfl) (off_ rfl rfl rfl rfl (off_ rfl rfl rfl rfl (off_ rfl rfl rfl rfl (v_ rfl (pF (.bool false) rfl rfl rfl) (v_ rfl (mv (.bool false) rfl) (off_ rfl rfl rfl rfl (off_ rfl rfl rfl rfl (v_ rfl (pF (.bool false) rfl rfl rfl) (v_ rfl (mv (.bool false) rfl) (off_ rfl rfl rfl rfl (off_ rfl rfl rfl rfl (off_ rfl rfl rfl rfl (v_ rfl (pF (.bool false) rfl rfl rfl) (v_ rfl (mv (.bool false) rfl) (off_ rfl rfl rfl rfl (off_ rfl rfl rfl rfl (off_ rfl rfl rfl rfl (off_ rfl rfl rfl rfl (off_ rfl rfl rfl rfl (v_ rfl (pF (.bool false) rfl rfl rfl) (v_ rfl (mv (.bool false) rfl) (off_ rfl rfl rfl rfl (off_ rfl rfl rfl rfl (off_ rfl rfl rfl rfl (off_ rfl rfl rfl rfl (off_ rfl rfl rfl rfl (off_ rfl rfl rfl rfl (off_ rfl rfl rfl rfl (off_ rfl rfl rfl rfl (off_ rfl rfl rfl rfl (v_ rfl (pF (.bool false) rfl rfl rfl) (v_ rfl (mv (.bool false) rfl) (off_ rfl rfl rfl rfl (off_ rfl rfl rfl rfl (off_ rfl rfl rfl rfl (off_ rfl rfl rfl rfl (off_ rfl rfl rfl rfl (off_ rfl rfl rfl rfl ?_))))))))))))))))))))))))))))))))))))))))
      refine off_ rfl rfl rfl rfl (off_ rfl rfl rfl rfl (off_ rfl rfl rfl rfl (off_ rfl rfl rfl rfl (off_ rfl rfl rfl rfl (v_ rfl (pF (.bool false) rfl rfl rfl) (v_ rfl (sg (.bool false) rfl) (nl (wc_ret ?_))))))))
      cases E
      exact ⟨.inl rfl, _, resN rfl (rv_t rv_nil), rfl, H.sub0⟩
end Go.Proofs.Ythfhhnlnlcbckaa.Gw
