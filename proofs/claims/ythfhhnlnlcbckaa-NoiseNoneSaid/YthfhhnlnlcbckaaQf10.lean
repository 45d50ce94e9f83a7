/- erratum/erratumlaw23.NoiseBurst -/
/- PRINTED by gwmain.py of this project. -/
import Derived.Test.YthfhhnlnlcbckaaQ0
import Derived.Test.YthfhhnlnlcbckaaQf18
import Derived.Test.YthfhhnlnlcbckaaQf19
import Derived.Test.YthfhhnlnlcbckaaQf24
namespace Go.Proofs.Ythfhhnlnlcbckaa.Gw
open Go Go.RowKit
set_option linter.unusedVariables false
set_option linter.unusedSimpArgs false
def law23_NoiseBurst.j0 (k : Nat) (x10 : List Int × List Int) : Option (Bool) := (law23_known.f k).bind fun x131 => bif x131 then (some (decide ((x10.2.length : Int) = 0))) else (some false)
def law23_NoiseBurst.l0 : Nat → List Int → List Int → Int → (List Int × List Int) → Int → Option (Bool)
  | 0, _, _, _, _, _ => none
  | k + 1, a0, a1, a2, x10, x93 => bif decide (x93 < (a0.length : Int)) then (grd (decide ((0 : Int) ≤ x93 ∧ x93 < (a0.length : Int))) (bif decide (IntKind.i64.wrap a2 ≤ x93) then (bif decide (x93 < IntKind.i64.wrap ((IntKind.i64.wrap a2) + (a1.length : Int))) then (grd (decide ((0 : Int) ≤ IntKind.i64.wrap (x93 - (IntKind.i64.wrap a2)) ∧ IntKind.i64.wrap (x93 - (IntKind.i64.wrap a2)) < (a1.length : Int))) (grd (decide ((0 : Int) ≤ x93 ∧ x93 < (x10.1.length : Int))) (bif !decide (at_ 0 x10.1 x93 = at_ 0 a1 (IntKind.i64.wrap (x93 - (IntKind.i64.wrap a2)))) then (some false) else (law23_NoiseBurst.l0 k a0 a1 a2 x10 (IntKind.i64.wrap (x93 + 1)))))) else (grd (decide ((0 : Int) ≤ x93 ∧ x93 < (x10.1.length : Int))) (bif !decide (at_ 0 x10.1 x93 = at_ 0 a0 x93) then (some false) else (law23_NoiseBurst.l0 k a0 a1 a2 x10 (IntKind.i64.wrap (x93 + 1)))))) else (grd (decide ((0 : Int) ≤ x93 ∧ x93 < (x10.1.length : Int))) (bif !decide (at_ 0 x10.1 x93 = at_ 0 a0 x93) then (some false) else (law23_NoiseBurst.l0 k a0 a1 a2 x10 (IntKind.i64.wrap (x93 + 1))))))) else (law23_NoiseBurst.j0 k x10)
def law23_NoiseBurst.f (k : Nat) (a0 : List Int) (a1 : List Int) (a2 : Int) : Option (Bool) := bif decide (300 < IntKind.i64.wrap ((a0.length : Int) + (a1.length : Int))) then ((law23_known.f k).bind fun x5 => some x5) else ((noise_Burst.f k (IntKind.i64.wrap a2) a1).bind fun x7 => (noise_Apply.f k a0 x7).bind fun x10 => bif !decide ((x10.1.length : Int) = (a0.length : Int)) then (some false) else (bif !decide ((x7.length : Int) = (a1.length : Int)) then (some false) else (law23_NoiseBurst.l0 k a0 a1 a2 x10 0)))
set_option maxRecDepth 100000 in
set_option maxHeartbeats 4000000 in
theorem law23_NoiseBurst.calls {w0 : World} {k : Nat} {a0 : List Int} {a1 : List Int} {a2 : Int} {v0_ : Value} {v1_ : Value} {r : Bool} (h0 : Rd (.of (.int .u8)) w0 (Ol no w0) v0_ a0) (h1 : Rd (.of (.int .u8)) w0 (Ol no w0) v1_ a1) (E : law23_NoiseBurst.f k a0 a1 a2 = some r) :
    Calls Try.prog 10 #[v0_, v1_, .int .u8 a2] w0 fun e w' => e = .returned (.bool r) ∧ St no w0 w' [] := by
  have H := St.nil no w0
  unfold law23_NoiseBurst.f at E
  refine calls_of_wc (N := 83) (args := [v0_, v1_, .int .u8 a2]) Try.func10 rfl rfl (by simp) ?_
  refine rg (v_ rfl (sg (.bool false) rfl) (nl (wc_seq (rg (v_ rfl (mv v0_ rfl) (v_ rfl (r_lenR ul_42 (H.rd h0) rfl) (v_ rfl (mv v1_ rfl) (v_ rfl (r_lenR ul_42 (H.rd h1) rfl) (v_ rfl (r_add rfl rfl) (v_ rfl (r_gtr rfl rfl) (nl ?_)))))))))))
  refine wc_cond rfl (fun c4 => ?_) (fun c4 => ?_)
  · have E := iT c4 E
    refine rg ?_
    obtain ⟨x5, E6, E⟩ := bind_some E
    refine e_ rfl (y_callL en_18 rfl ((law23_known.calls E6).mono ?_))
    rintro _ w ⟨rfl, K⟩
    have H := H.app K
    refine ⟨_, rfl, (v_ rfl (sg (.bool x5) rfl) (nl (wc_ret ?_)))⟩
    cases E
    exact (r_thn ⟨.inl rfl, _, resN rfl (rv_t rv_nil), rfl, H.sub0⟩)
  · have E := iF c4 E
    refine wc_skip (n_thn (rg (v_ rfl (mv (.int .u8 a2) rfl) (v_ rfl (r_conv rfl Try.underlying5 Try.underlying3) (v_ rfl (mv v1_ rfl) ?_)))))
    obtain ⟨x7, E8, E⟩ := bind_some E
    refine e_ rfl (y_callL en_24 rfl ((noise_Burst.calls (H.arg (H.rd h1)) E8).mono ?_))
    rintro _ w ⟨v9, rfl, K⟩
    have H := H.app K
    refine ⟨_, rfl, (v_ rfl (sg v9 rfl) (nl (rg (v_ rfl (mv v0_ rfl) (v_ rfl (mv v9 rfl) ?_)))))⟩
    obtain ⟨x10, E11, E⟩ := bind_some E
    refine e_ rfl (y_callL en_19 rfl ((noise_Apply.calls (H.arg (H.rd h0)) (H.own 0 rfl (own_rd (H.get 0 rfl))) E11).mono ?_))
    rintro _ w ⟨v12, v13, rfl, K⟩
    have H := H.app K
    refine ⟨_, rfl, (v_ rfl (r_move) (v_ rfl (r_extract rfl rfl) (v_ rfl (r_extract rfl rfl) (v_ rfl (sg v12 rfl) (v_ rfl (sg v13 rfl) (nl (wc_seq (rg (v_ rfl (mv v12 rfl) (v_ rfl (r_lenR ul_42 (own_rd (H.get 1 rfl)) rfl) (v_ rfl (mv v0_ rfl) (v_ rfl (r_lenR ul_42 (H.rd h0) rfl) (v_ rfl (r_neq rfl rfl) (v_ rfl (mv (.bool (!decide ((x10.1.length : Int) = (a0.length : Int)))) rfl) ?_))))))))))))))⟩
    rcases Bool.eq_false_or_eq_true (!decide ((x10.1.length : Int) = (a0.length : Int))) with c16 | c16
    · have E := iT c16 E
      refine off_ c16 rfl rfl rfl (off_ c16 rfl rfl rfl (off_ c16 rfl rfl rfl (off_ c16 rfl rfl rfl (off_ c16 rfl rfl rfl (v_ rfl (pT (.bool true) rfl rfl c16) (nl (wc_condT rfl (rg (v_ rfl (sg (.bool false) rfl) (nl (wc_ret ?_)))))))))))
      cases E
      exact (r_thn ⟨.inl rfl, _, resN rfl (rv_t rv_nil), rfl, H.sub0⟩)
    · have E := iF c16 E
      refine on_ c16 rfl rfl (mv v9 rfl) (on_ c16 rfl rfl (r_lenR ul_43 (own_rd (H.get 0 rfl)) rfl) (on_ c16 rfl rfl (mv v1_ rfl) (on_ c16 rfl rfl (r_lenR ul_42 (H.rd h1) rfl) (on_ c16 rfl rfl (r_neq rfl rfl) (v_ rfl (pF (.bool (!decide ((x7.length : Int) = (a1.length : Int)))) rfl rfl c16) (nl ?_))))))
      refine wc_cond rfl (fun c17 => ?_) (fun c17 => ?_)
      · have E := iT c17 E
        refine rg (v_ rfl (sg (.bool false) rfl) (nl (wc_ret ?_)))
        cases E
        exact (r_thn ⟨.inl rfl, _, resN rfl (rv_t rv_nil), rfl, H.sub0⟩)
      · have E := iF c17 E
        refine wc_skip (n_thn ?_)
        refine wc_seqJ (fun t w => ∃ (k74 : Nat) (t73 : Fr), k74 ≤ k ∧ law23_NoiseBurst.j0 k74 x10 = some r ∧ t = upds t73 [(6, .bool false), (9, v13)] ∧ St no w0 w [.own (.pr (.int .i64) (.pr (.int .u8) (.pr .bool .bool))) 48 v9 x7, .own (.int .u8) 5 v12 x10.1, .own (.int .i64) 3 v13 x10.2]) ?_ ?_
        · refine rg (v_ rfl (sg (.int .i64 0) rfl) (nl (wc_block ?_)))
          refine wc_loop (fun kk t w => ∃ (x93 : Int) (t113 : Fr), kk ≤ k ∧ law23_NoiseBurst.l0 kk a0 a1 a2 x10 x93 = some r ∧ t = upds t113 [(0, v0_), (1, v1_), (2, .int .u8 a2), (6, .bool false), (8, v12), (9, v13), (10, .int .i64 x93)] ∧ St no w0 w [.own (.pr (.int .i64) (.pr (.int .u8) (.pr .bool .bool))) 48 v9 x7, .own (.int .u8) 5 v12 x10.1, .own (.int .i64) 3 v13 x10.2]) k ?_ ?_
          · exact ⟨_, _, Nat.le_refl _, E, upds_eq ⟨rfl, rfl, rfl, rfl, rfl, rfl, rfl, trivial⟩, H⟩
          rintro kk t w ⟨x93, t113, hk112, E, rfl, H⟩
          obtain ⟨k111, rfl⟩ | rfl : (∃ k', kk = k' + 1) ∨ kk = 0 := by cases kk; exact .inr rfl; exact .inl ⟨_, rfl⟩
          rotate_left
          · cases E
          rw [law23_NoiseBurst.l0] at E
          refine wc_seq (rg (v_ rfl (mv (.int .i64 x93) rfl) (v_ rfl (mv v0_ rfl) (v_ rfl (r_lenR ul_42 (H.rd h0) rfl) (v_ rfl (r_lss rfl rfl) (nl ?_))))))
          refine wc_cond rfl (fun c115 => ?_) (fun c115 => ?_)
          · have E := iT c115 E
            refine wc_skip (n_thn (wc_seq (wc_block (rg (v_ rfl (mv v0_ rfl) (v_ rfl (mv (.int .i64 x93) rfl) ?_))))))
            obtain ⟨⟨g116, g117⟩, E⟩ := grd_some E
            refine v_ rfl (r_idx sl_42 (H.rd h0) rfl rfl g116 g117) (v_ rfl (r_ldI sc_5 (H.rd h0) g116 g117 rfl) (v_ rfl (sg (.int .u8 (at_ 0 a0 x93)) rfl) (nl (wc_seq (rg (v_ rfl (mv (.int .i64 x93) rfl) (v_ rfl (mv (.int .u8 a2) rfl) (v_ rfl (r_conv rfl Try.underlying5 Try.underlying3) (v_ rfl (r_geq rfl rfl) (v_ rfl (mv (.bool (decide (IntKind.i64.wrap a2 ≤ x93))) rfl) ?_))))))))))
            rcases Bool.eq_false_or_eq_true (decide (IntKind.i64.wrap a2 ≤ x93)) with c118 | c118
            · have E := iT c118 E
              refine on_ c118 rfl rfl (mv (.int .i64 x93) rfl) (on_ c118 rfl rfl (mv (.int .u8 a2) rfl) (on_ c118 rfl rfl (r_conv rfl Try.underlying5 Try.underlying3) (on_ c118 rfl rfl (mv v1_ rfl) (on_ c118 rfl rfl (r_lenR ul_42 (H.rd h1) rfl) (on_ c118 rfl rfl (r_add rfl rfl) (on_ c118 rfl rfl (r_lss rfl rfl) (v_ rfl (pT (.bool (decide (x93 < IntKind.i64.wrap ((IntKind.i64.wrap a2) + (a1.length : Int))))) rfl rfl c118) (nl ?_))))))))
              refine wc_cond rfl (fun c119 => ?_) (fun c119 => ?_)
              · have E := iT c119 E
                refine wc_region (v_ rfl (mv v1_ rfl) (v_ rfl (mv (.int .i64 x93) rfl) (v_ rfl (mv (.int .u8 a2) rfl) (v_ rfl (r_conv rfl Try.underlying5 Try.underlying3) (v_ rfl (r_sub rfl rfl) ?_)))))
                obtain ⟨⟨g120, g121⟩, E⟩ := grd_some E
                refine v_ rfl (r_idx sl_42 (H.rd h1) rfl rfl g120 g121) (v_ rfl (r_ldI sc_5 (H.rd h1) g120 g121 rfl) (v_ rfl (sg (.int .u8 (at_ 0 a1 (IntKind.i64.wrap (x93 - (IntKind.i64.wrap a2))))) rfl) (nl (rg (v_ rfl (mv v12 rfl) (v_ rfl (mv (.int .i64 x93) rfl) ?_))))))
                obtain ⟨⟨g122, g123⟩, E⟩ := grd_some E
                refine v_ rfl (r_idx sl_42 (own_rd (H.get 1 rfl)) rfl rfl g122 g123) (v_ rfl (r_ldI sc_5 (own_rd (H.get 1 rfl)) g122 g123 rfl) (v_ rfl (mv (.int .u8 (at_ 0 a1 (IntKind.i64.wrap (x93 - (IntKind.i64.wrap a2))))) rfl) (v_ rfl (r_neq rfl rfl) (nl ?_))))
                refine wc_cond rfl (fun c124 => ?_) (fun c124 => ?_)
                · have E := iT c124 E
                  refine rg (v_ rfl (sg (.bool false) rfl) (nl (wc_ret ?_)))
                  cases E
                  exact (r_bk (r_thn (r_thn (r_bk (r_thn ⟨.inl rfl, _, resN rfl (rv_t rv_nil), rfl, H.sub0⟩)))))
                · have E := iF c124 E
                  refine wc_skip (n_bk (n_thn (wc_region (v_ rfl (mv (.int .i64 x93) rfl) (v_ rfl (r_add rfl rfl) (v_ rfl (sg (.int .i64 (IntKind.i64.wrap (x93 + 1))) rfl) (wl_nil ?_)))))))
                  exact ⟨k111, Nat.lt_succ_self _, _, _, Nat.le_of_succ_le hk112, E, upds_eq ⟨rfl, rfl, rfl, rfl, rfl, rfl, rfl, trivial⟩, H⟩
              · have E := iF c119 E
                refine wc_skip (n_thn (rg (v_ rfl (mv v12 rfl) (v_ rfl (mv (.int .i64 x93) rfl) ?_))))
                obtain ⟨⟨g125, g126⟩, E⟩ := grd_some E
                refine v_ rfl (r_idx sl_42 (own_rd (H.get 1 rfl)) rfl rfl g125 g126) (v_ rfl (r_ldI sc_5 (own_rd (H.get 1 rfl)) g125 g126 rfl) (v_ rfl (mv (.int .u8 (at_ 0 a0 x93)) rfl) (v_ rfl (r_neq rfl rfl) (nl ?_))))
                refine wc_cond rfl (fun c127 => ?_) (fun c127 => ?_)
                · have E := iT c127 E
                  refine rg (v_ rfl (sg (.bool false) rfl) (nl (wc_ret ?_)))
                  cases E
                  exact (r_bk (r_thn (r_thn (r_bk (r_thn ⟨.inl rfl, _, resN rfl (rv_t rv_nil), rfl, H.sub0⟩)))))
                · have E := iF c127 E
                  refine wc_skip (n_bk (n_thn (wc_region (v_ rfl (mv (.int .i64 x93) rfl) (v_ rfl (r_add rfl rfl) (v_ rfl (sg (.int .i64 (IntKind.i64.wrap (x93 + 1))) rfl) (wl_nil ?_)))))))
                  exact ⟨k111, Nat.lt_succ_self _, _, _, Nat.le_of_succ_le hk112, E, upds_eq ⟨rfl, rfl, rfl, rfl, rfl, rfl, rfl, trivial⟩, H⟩
            · have E := iF c118 E
              refine off_ c118 rfl rfl rfl (off_ c118 rfl rfl rfl (off_ c118 rfl rfl rfl (off_ c118 rfl rfl rfl (off_ c118 rfl rfl rfl (off_ c118 rfl rfl rfl (off_ c118 rfl rfl rfl (v_ rfl (pF (.bool false) rfl rfl c118) (nl (wc_condF rfl (wc_skip (n_thn (rg (v_ rfl (mv v12 rfl) (v_ rfl (mv (.int .i64 x93) rfl) ?_))))))))))))))
              obtain ⟨⟨g128, g129⟩, E⟩ := grd_some E
              refine v_ rfl (r_idx sl_42 (own_rd (H.get 1 rfl)) rfl rfl g128 g129) (v_ rfl (r_ldI sc_5 (own_rd (H.get 1 rfl)) g128 g129 rfl) (v_ rfl (mv (.int .u8 (at_ 0 a0 x93)) rfl) (v_ rfl (r_neq rfl rfl) (nl ?_))))
              refine wc_cond rfl (fun c130 => ?_) (fun c130 => ?_)
              · have E := iT c130 E
                refine rg (v_ rfl (sg (.bool false) rfl) (nl (wc_ret ?_)))
                cases E
                exact (r_bk (r_thn (r_thn (r_bk (r_thn ⟨.inl rfl, _, resN rfl (rv_t rv_nil), rfl, H.sub0⟩)))))
              · have E := iF c130 E
                refine wc_skip (n_bk (n_thn (wc_region (v_ rfl (mv (.int .i64 x93) rfl) (v_ rfl (r_add rfl rfl) (v_ rfl (sg (.int .i64 (IntKind.i64.wrap (x93 + 1))) rfl) (wl_nil ?_)))))))
                exact ⟨k111, Nat.lt_succ_self _, _, _, Nat.le_of_succ_le hk112, E, upds_eq ⟨rfl, rfl, rfl, rfl, rfl, rfl, rfl, trivial⟩, H⟩
          · have E := iF c115 E
            refine wc_exit (x_thn (x_thn (x_bk ?_)))
            exact ⟨k111, _, by omega, E, upds_eq ⟨rfl, rfl, trivial⟩, H⟩
        rintro t w ⟨k74, t73, hk75, E, rfl, H⟩
        unfold law23_NoiseBurst.j0 at E
        refine rg ?_
        obtain ⟨x131, E132, E⟩ := bind_some E
        refine e_ rfl (y_callL en_18 rfl ((law23_known.calls E132).mono ?_))
        rintro _ w ⟨rfl, K⟩
        have H := H.app K
        refine ⟨_, rfl, (v_ rfl (mv (.bool x131) rfl) ?_)⟩
        rcases Bool.eq_false_or_eq_true (x131) with c133 | c133
        · have E := iT c133 E
          refine on_ c133 rfl rfl (mv v13 rfl) (on_ c133 rfl rfl (r_lenR ul_44 (own_rd (H.get 2 rfl)) rfl) (on_ c133 rfl rfl (r_eql rfl rfl) (v_ rfl (pT (.bool (decide ((x10.2.length : Int) = 0))) rfl rfl c133) (v_ rfl (sg (.bool (decide ((x10.2.length : Int) = 0))) rfl) (nl (wc_ret ?_))))))
          cases E
          exact ⟨.inl rfl, _, resN rfl (rv_t rv_nil), rfl, H.sub0⟩
        · have E := iF c133 E
          refine off_ c133 rfl rfl rfl (off_ c133 rfl rfl rfl (off_ c133 rfl rfl rfl (v_ rfl (pF (.bool false) rfl rfl c133) (v_ rfl (sg (.bool false) rfl) (nl (wc_ret ?_))))))
          cases E
          exact ⟨.inl rfl, _, resN rfl (rv_t rv_nil), rfl, H.sub0⟩
end Go.Proofs.Ythfhhnlnlcbckaa.Gw
