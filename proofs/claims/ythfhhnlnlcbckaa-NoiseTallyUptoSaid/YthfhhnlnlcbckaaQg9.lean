/- What these functions compute, and that they do: law23_NoiseTally. -/
/- Printed by a program of this project. -/
import Derived.Test.YthfhhnlnlcbckaaQ0
import Derived.Test.YthfhhnlnlcbckaaQg1
import Derived.Test.YthfhhnlnlcbckaaQg2
import Derived.Test.YthfhhnlnlcbckaaQg5
import Derived.Test.YthfhhnlnlcbckaaQg6
import Derived.Test.YthfhhnlnlcbckaaQg8
namespace Go.Proofs.Ythfhhnlnlcbckaa.Gw
open Go Go.RowKit
set_option linter.unusedVariables false
set_option linter.unusedSimpArgs false
def law23_NoiseTally.j0 (l1r : ((Int × Int × Int)) → Int → (List Int × Int) → (List (List Int) × Bool) → (List (List Int) × Bool) → Int → Int → Int → Option (Bool)) (k : Nat) (x7 : (Int × Int × Int)) (x10 : Int) (x12 : List Int × Int) (x19 : List (List Int) × Bool) (x23 : List (List Int) × Bool) (x63 : Int) (x64 : Int) : Option (Bool) := l1r x7 x10 x12 x19 x23 x63 x64 0
def law23_NoiseTally.j1 (k : Nat) (x7 : (Int × Int × Int)) (x10 : Int) (x12 : List Int × Int) (x19 : List (List Int) × Bool) (x23 : List (List Int) × Bool) (x158 : Int) (x159 : Int) : Option (Bool) := grd (decide ((0 : Int) ≤ IntKind.i64.wrap ((x12.1.length : Int) - 1) ∧ IntKind.i64.wrap ((x12.1.length : Int) - 1) ≤ (x12.1.length : Int))) ((noise_Tally.f k (x7.1, x7.2.1, x7.2.2) x10 x12.1 ((x12.1.take ((IntKind.i64.wrap ((x12.1.length : Int) - 1)).toNat)).drop 0) ([] : List (Int))).bind fun x222 => (law23_known.f k).bind fun x226 => bif x226 then (bif x19.2 then (bif x23.2 then (bif decide (x158 = 0) then (bif decide (x159 = 0) then ((noise_Bears.f k (x7.1, x7.2.1, x7.2.2) x23.1).bind fun x233 => bif x233 then (bif !x222.2 then (grd (decide (x7.1 ≠ 0)) (some (decide ((x19.1.length : Int) = IntKind.i64.wrap (Int.tdiv (IntKind.i64.wrap ((x12.1.length : Int) - 10)) x7.1))))) else (some false)) else (some false)) else (some false)) else (some false)) else (some false)) else (some false)) else (some false))
mutual
def law23_NoiseTally.l0 : Nat → ((Int × Int × Int)) → Int → (List Int × Int) → (List Int × List Int) → (List (List Int) × Bool) → (List (List Int) × Bool) → Int → Int → Int → Option (Bool)
  | 0, _, _, _, _, _, _, _, _, _ => none
  | k + 1, x7, x10, x12, x15, x19, x23, x78, x79, x80 => bif decide (x80 < (x12.1.length : Int)) then ((ref12_Place.f k x15.2 x80).bind fun x96 => bif decide (0 ≤ x96) then (law23_NoiseTally.l0 k x7 x10 x12 x15 x19 x23 x78 (IntKind.i64.wrap (x79 + 1)) (IntKind.i64.wrap (x80 + 1))) else (grd (decide ((0 : Int) ≤ x80 ∧ x80 < (x12.1.length : Int))) (grd (decide ((0 : Int) ≤ x80 ∧ x80 < (x15.1.length : Int))) (bif !decide (at_ 0 x12.1 x80 = at_ 0 x15.1 x80) then (law23_NoiseTally.l0 k x7 x10 x12 x15 x19 x23 (IntKind.i64.wrap (x78 + 1)) x79 (IntKind.i64.wrap (x80 + 1))) else (law23_NoiseTally.l0 k x7 x10 x12 x15 x19 x23 x78 x79 (IntKind.i64.wrap (x80 + 1))))))) else (law23_NoiseTally.j0 (law23_NoiseTally.l1 k) k x7 x10 x12 x19 x23 x78 x79)
def law23_NoiseTally.l1 : Nat → ((Int × Int × Int)) → Int → (List Int × Int) → (List (List Int) × Bool) → (List (List Int) × Bool) → Int → Int → Int → Option (Bool)
  | 0, _, _, _, _, _, _, _, _ => none
  | k + 1, x7, x10, x12, x19, x23, x179, x180, x181 => bif decide (x181 < (x19.1.length : Int)) then (grd (decide ((0 : Int) ≤ x181 ∧ x181 < (x19.1.length : Int))) (bif !decide (((at_ [] x19.1 x181).length : Int) = 2) then (some false) else (grd (decide ((0 : Int) ≤ x181 ∧ x181 < (x19.1.length : Int))) (grd (decide ((0 : Int) ≤ 0 ∧ 0 < ((at_ [] x19.1 x181).length : Int))) (grd (decide ((0 : Int) ≤ x181 ∧ x181 < (x19.1.length : Int))) (grd (decide ((0 : Int) ≤ 1 ∧ 1 < ((at_ [] x19.1 x181).length : Int))) (law23_NoiseTally.l1 k x7 x10 x12 x19 x23 (IntKind.i64.wrap (x179 - (at_ 0 (at_ [] x19.1 x181) 0))) (IntKind.i64.wrap (x180 - (at_ 0 (at_ [] x19.1 x181) 1))) (IntKind.i64.wrap (x181 + 1))))))))) else (law23_NoiseTally.j1 k x7 x10 x12 x19 x23 x179 x180)
end
def law23_NoiseTally.f (k : Nat) (a0 : Int) (a1 : Int) (a2 : Int) (a3 : Int) (a4 : List Int) (a5 : List Int) (a6 : List Int) (a7 : List Int) : Option (Bool) := bif decide (80 < (a4.length : Int)) then ((law23_known.f k).bind fun x5 => some x5) else ((law18_Small.f a0 a1 a2).bind fun x7 => (law22_Depth.f a3).bind fun x10 => (ref22_Encode.f k (x7.1, x7.2.1, x7.2.2) x10 (0, 0) a4).bind fun x12 => (law22_Hurt.f k x12.1 a5 a6 a7).bind fun x15 => (noise_Tally.f k (x7.1, x7.2.1, x7.2.2) x10 x12.1 x15.1 x15.2).bind fun x19 => (noise_Tally.f k (x7.1, x7.2.1, x7.2.2) x10 x12.1 x12.1 ([] : List (Int))).bind fun x23 => law23_NoiseTally.l0 k x7 x10 x12 x15 x19 x23 0 0 10)
set_option maxRecDepth 100000 in
set_option maxHeartbeats 4000000 in
theorem law23_NoiseTally.calls {w0 : World} {k : Nat} {a0 : Int} {a1 : Int} {a2 : Int} {a3 : Int} {a4 : List Int} {a5 : List Int} {a6 : List Int} {a7 : List Int} {v4_ : Value} {v5_ : Value} {v6_ : Value} {v7_ : Value} {r : Bool} (h4 : Rd (.of (.int .u8)) w0 (Ol no w0) v4_ a4) (h5 : Rd (.of (.int .u8)) w0 (Ol no w0) v5_ a5) (h6 : Rd (.of (.int .u8)) w0 (Ol no w0) v6_ a6) (h7 : Rd (.of (.int .u8)) w0 (Ol no w0) v7_ a7) (E : law23_NoiseTally.f k a0 a1 a2 a3 a4 a5 a6 a7 = some r) :
    Calls Try.prog 11 #[.int .u8 a0, .int .u8 a1, .int .u8 a2, .int .u8 a3, v4_, v5_, v6_, v7_] w0 fun e w' => e = .returned (.bool r) ∧ St no w0 w' [] := by
  have H := St.nil no w0
  unfold law23_NoiseTally.f at E
  refine calls_of_wc (N := 174) (args := [.int .u8 a0, .int .u8 a1, .int .u8 a2, .int .u8 a3, v4_, v5_, v6_, v7_]) Try.func11 rfl rfl (by simp) ?_
  refine rg (v_ rfl (sg (.bool false) rfl) (nl (wc_seq (rg (v_ rfl (mv v4_ rfl) (v_ rfl (r_lenR ul_42 (H.rd h4) rfl) (v_ rfl (r_gtr rfl rfl) (nl ?_))))))))
  refine wc_cond rfl (fun c4 => ?_) (fun c4 => ?_)
  · have E := iT c4 E
    refine rg ?_
    obtain ⟨x5, E6, E⟩ := bind_some E
    refine e_ rfl (y_callL en_18 rfl ((law23_known.calls E6).mono ?_))
    rintro _ w ⟨rfl, K⟩
    have H := H.app K
    refine ⟨_, rfl, (v_ rfl (sg (.bool x5) rfl) (nl (wc_ret ?_)))⟩
    cases E
    exact (r_thn ⟨.inl rfl, _, tk0 rfl ⟨resN rfl (rv_t rv_nil), rfl, H.sub0⟩⟩)
  · have E := iF c4 E
    refine wc_skip (n_thn (rg (v_ rfl (mv (.int .u8 a0) rfl) (v_ rfl (mv (.int .u8 a1) rfl) (v_ rfl (mv (.int .u8 a2) rfl) ?_)))))
    obtain ⟨x7, E8, E⟩ := bind_some E
    refine e_ rfl (y_callL en_22 rfl ((law18_Small.calls E8).mono ?_))
    rintro _ w ⟨rfl, K⟩
    have H := H.app K
    refine ⟨_, rfl, (e_ rfl (y_allocS zr_23 H (fun b9 w H => (s_ (y_storeBA sz_23 H 0 rfl rfl rfl rfl rfl rfl (fun w H => (nl (rg (v_ rfl (mv (.int .u8 a3) rfl) ?_)))))))))⟩
    obtain ⟨x10, E11, E⟩ := bind_some E
    refine e_ rfl (y_callL en_25 rfl ((law22_Depth.calls E11).mono ?_))
    rintro _ w ⟨rfl, K⟩
    have H := H.app K
    refine ⟨_, rfl, (v_ rfl (sg (.int .i64 x10) rfl) (nl (rg (v_ rfl (r_loadB (l := [.int .i64 x7.1, .int .i64 x7.2.1, .int .i64 x7.2.2]) ag_23 (H.get 0 rfl) rfl rfl rfl) (v_ rfl (mv (.int .i64 x10) rfl) (v_ rfl (r_build (cs := [.int .i64 0, .int .i64 0]) bd_25 rfl) (v_ rfl (mv v4_ rfl) ?_)))))))⟩
    obtain ⟨x12, E13, E⟩ := bind_some E
    refine e_ rfl (y_callL en_26 rfl ((ref22_Encode.calls (H.arg (H.rd h4)) E13).mono ?_))
    rintro _ w ⟨v14, rfl, K⟩
    have H := H.app K
    refine ⟨_, rfl, ?_⟩
    have H : St no w0 w [.blk b9 #[.int .i64 x7.1, .int .i64 x7.2.1, .int .i64 x7.2.2] 23, .own (.int .u8) 5 v14 x12.1] := H
    refine v_ rfl (r_move) (v_ rfl (r_extract rfl rfl) (v_ rfl (r_extract rfl rfl) (v_ rfl (sg v14 rfl) (v_ rfl (sg (.int .i64 x12.2) rfl) (nl (rg (v_ rfl (mv v14 rfl) (v_ rfl (mv v5_ rfl) (v_ rfl (mv v6_ rfl) (v_ rfl (mv v7_ rfl) ?_))))))))))
    obtain ⟨x15, E16, E⟩ := bind_some E
    refine e_ rfl (y_callL en_27 rfl ((law22_Hurt.calls (H.own 1 rfl (own_rd (H.get 1 rfl))) (H.arg (H.rd h5)) (H.arg (H.rd h6)) (H.arg (H.rd h7)) E16).mono ?_))
    rintro _ w ⟨v17, v18, rfl, K⟩
    have H := H.app K
    refine ⟨_, rfl, (v_ rfl (r_move) (v_ rfl (r_extract rfl rfl) (v_ rfl (r_extract rfl rfl) (v_ rfl (sg v17 rfl) (v_ rfl (sg v18 rfl) (nl (rg (v_ rfl (r_loadB (l := [.int .i64 x7.1, .int .i64 x7.2.1, .int .i64 x7.2.2]) ag_23 (H.get 0 rfl) rfl rfl rfl) (v_ rfl (mv (.int .i64 x10) rfl) (v_ rfl (mv v14 rfl) (v_ rfl (mv v17 rfl) (v_ rfl (mv v18 rfl) ?_))))))))))))⟩
    obtain ⟨x19, E20, E⟩ := bind_some E
    refine e_ rfl (y_callL en_28 rfl ((noise_Tally.calls (H.own 1 rfl (own_rd (H.get 1 rfl))) (H.own 2 rfl (own_rd (H.get 2 rfl))) (H.own 3 rfl (own_rd (H.get 3 rfl))) E20).mono ?_))
    rintro _ w ⟨v21, us22, rfl, K⟩
    have H := H.app K
    refine ⟨_, rfl, (v_ rfl (r_move) (v_ rfl (r_extract rfl rfl) (v_ rfl (r_extract rfl rfl) (v_ rfl (sg v21 rfl) (v_ rfl (sg (.bool x19.2) rfl) (nl (rg (v_ rfl (r_loadB (l := [.int .i64 x7.1, .int .i64 x7.2.1, .int .i64 x7.2.2]) ag_23 (H.get 0 rfl) rfl rfl rfl) (v_ rfl (mv (.int .i64 x10) rfl) (v_ rfl (mv v14 rfl) (v_ rfl (mv v14 rfl) ?_)))))))))))⟩
    obtain ⟨x23, E24, E⟩ := bind_some E
    refine e_ rfl (y_callL en_28 rfl ((noise_Tally.calls (H.own 1 rfl (own_rd (H.get 1 rfl))) (H.own 1 rfl (own_rd (H.get 1 rfl))) (Rd.nil (.of (.int .i64)) _ _) E24).mono ?_))
    rintro _ w ⟨v25, us26, rfl, K⟩
    have H := H.app K
    refine ⟨_, rfl, (v_ rfl (r_move) (v_ rfl (r_extract rfl rfl) (v_ rfl (r_extract rfl rfl) (v_ rfl (sg v25 rfl) (v_ rfl (sg (.bool x23.2) rfl) (nl (rg (v_ rfl (sg (.int .i64 0) rfl) (nl (rg (v_ rfl (sg (.int .i64 0) rfl) (nl ?_))))))))))))⟩
    refine wc_seqJ (fun t w => ∃ (k66 : Nat) (x63 : Int) (x64 : Int) (t65 : Fr), k66 ≤ k ∧ law23_NoiseTally.j0 (law23_NoiseTally.l1 k66) k66 x7 x10 x12 x19 x23 x63 x64 = some r ∧ t = upds t65 [(16, .bool false), (17, .pointer (some ⟨b9, 0, none⟩)), (18, .int .i64 x10), (19, v14), (23, v21), (24, .bool x19.2), (25, v25), (26, .bool x23.2), (27, .int .i64 x63), (28, .int .i64 x64), (1000000, undef)] ∧ St no w0 w [.blk b9 #[.int .i64 x7.1, .int .i64 x7.2.1, .int .i64 x7.2.2] 23, .own (.int .u8) 5 v14 x12.1, .own (.int .u8) 5 v17 x15.1, .own (.int .i64) 3 v18 x15.2, .rows (.int .i64) 3 44 v21 us22 x19.1, .rows (.int .i64) 3 44 v25 us26 x23.1]) ?_ ?_
    · refine rg (v_ rfl (sg (.int .i64 10) rfl) (nl (wc_block ?_)))
      refine wc_loop (fun kk t w => ∃ (x78 : Int) (x79 : Int) (x80 : Int) (t93 : Fr), kk ≤ k ∧ law23_NoiseTally.l0 kk x7 x10 x12 x15 x19 x23 x78 x79 x80 = some r ∧ t = upds t93 [(16, .bool false), (17, .pointer (some ⟨b9, 0, none⟩)), (18, .int .i64 x10), (19, v14), (21, v17), (22, v18), (23, v21), (24, .bool x19.2), (25, v25), (26, .bool x23.2), (27, .int .i64 x78), (28, .int .i64 x79), (29, .int .i64 x80), (1000000, undef)] ∧ St no w0 w [.blk b9 #[.int .i64 x7.1, .int .i64 x7.2.1, .int .i64 x7.2.2] 23, .own (.int .u8) 5 v14 x12.1, .own (.int .u8) 5 v17 x15.1, .own (.int .i64) 3 v18 x15.2, .rows (.int .i64) 3 44 v21 us22 x19.1, .rows (.int .i64) 3 44 v25 us26 x23.1]) k ?_ ?_
      · exact ⟨_, _, _, _, Nat.le_refl _, E, upds_eq ⟨rfl, rfl, rfl, rfl, rfl, rfl, rfl, rfl, rfl, rfl, rfl, rfl, rfl, rfl, trivial⟩, H⟩
      rintro kk t w ⟨x78, x79, x80, t93, hk92, E, rfl, H⟩
      obtain ⟨k91, rfl⟩ | rfl : (∃ k', kk = k' + 1) ∨ kk = 0 := by cases kk; exact .inr rfl; exact .inl ⟨_, rfl⟩
      rotate_left
      · cases E
      rw [law23_NoiseTally.l0] at E
      refine wc_seq (rg (v_ rfl (mv (.int .i64 x80) rfl) (v_ rfl (mv v14 rfl) (v_ rfl (r_lenR ul_42 (own_rd (H.get 1 rfl)) rfl) (v_ rfl (r_lss rfl rfl) (nl ?_))))))
      refine wc_cond rfl (fun c95 => ?_) (fun c95 => ?_)
      · have E := iT c95 E
        refine wc_skip (n_thn (wc_seq (wc_block (rg (v_ rfl (mv v18 rfl) (v_ rfl (mv (.int .i64 x80) rfl) ?_))))))
        obtain ⟨x96, E97, E⟩ := bind_some E
        refine e_ rfl (y_callL en_29 rfl ((ref12_Place.calls (H.own 3 rfl (own_rd (H.get 3 rfl))) E97).mono ?_))
        rintro _ w ⟨rfl, K⟩
        have H := H.app K
        refine ⟨_, rfl, (v_ rfl (r_geq rfl rfl) (nl ?_))⟩
        refine wc_cond rfl (fun c98 => ?_) (fun c98 => ?_)
        · have E := iT c98 E
          refine wc_region (v_ rfl (mv (.int .i64 x79) rfl) (v_ rfl (r_add rfl rfl) (v_ rfl (sg (.int .i64 (IntKind.i64.wrap (x79 + 1))) rfl) (wl_nil (n_bk (n_thn (wc_region (v_ rfl (mv (.int .i64 x80) rfl) (v_ rfl (r_add rfl rfl) (v_ rfl (sg (.int .i64 (IntKind.i64.wrap (x80 + 1))) rfl) (wl_nil ?_)))))))))))
          exact ⟨k91, Nat.lt_succ_self _, _, _, _, _, Nat.le_of_succ_le hk92, E, upds_eq ⟨rfl, rfl, rfl, rfl, rfl, rfl, rfl, rfl, rfl, rfl, rfl, rfl, rfl, rfl, trivial⟩, H⟩
        · have E := iF c98 E
          refine wc_seq (wc_drawnS (ds := []) mo H rfl rfl ?_)
          have H := H.drew
          refine wa_take (i := 0) (l' := #[true, false, false, false, false, false, false, false, false]) rfl rfl rfl (by kernel_rfl) H (fun w H => (mv v14 rfl)) (wa_take (i := 1) (l' := #[true, true, false, false, false, false, false, false, false]) rfl rfl rfl (by kernel_rfl) H (fun w H => (mv (.int .i64 x80) rfl)) ?_)
          obtain ⟨⟨g99, g100⟩, E⟩ := grd_some E
          refine wa_take (i := 2) (l' := #[true, true, true, false, false, false, false, false, false]) rfl rfl rfl (by kernel_rfl) H (fun w H => (r_idx sl_42 (own_rd (H.get 1 rfl)) rfl rfl g99 g100)) (wa_take (i := 3) (l' := #[true, true, true, true, false, false, false, false, false]) rfl rfl rfl (by kernel_rfl) H (fun w H => (r_ldI sc_5 (own_rd (H.get 1 rfl)) g99 g100 rfl)) (wa_take (i := 4) (l' := #[true, true, true, true, true, false, false, false, false]) rfl rfl rfl (by kernel_rfl) H (fun w H => (mv v17 rfl)) (wa_take (i := 5) (l' := #[true, true, true, true, true, true, false, false, false]) rfl rfl rfl (by kernel_rfl) H (fun w H => (mv (.int .i64 x80) rfl)) ?_)))
          obtain ⟨⟨g101, g102⟩, E⟩ := grd_some E
          refine wa_take (i := 6) (l' := #[true, true, true, true, true, true, true, false, false]) rfl rfl rfl (by kernel_rfl) H (fun w H => (r_idx sl_42 (own_rd (H.get 2 rfl)) rfl rfl g101 g102)) (wa_take (i := 7) (l' := #[true, true, true, true, true, true, true, true, false]) rfl rfl rfl (by kernel_rfl) H (fun w H => (r_ldI sc_5 (own_rd (H.get 2 rfl)) g101 g102 rfl)) (wa_take (i := 8) (l' := #[true, true, true, true, true, true, true, true, true]) rfl rfl rfl (by kernel_rfl) H (fun w H => (r_neq rfl rfl)) (wa_done (by kernel_rfl) (n_thn ?_))))
          refine wc_cond rfl (fun c103 => ?_) (fun c103 => ?_)
          · have E := iT c103 E
            refine wc_region (v_ rfl (mv (.int .i64 x78) rfl) (v_ rfl (r_add rfl rfl) (v_ rfl (sg (.int .i64 (IntKind.i64.wrap (x78 + 1))) rfl) (wl_nil (n_bk (n_thn (wc_region (v_ rfl (mv (.int .i64 x80) rfl) (v_ rfl (r_add rfl rfl) (v_ rfl (sg (.int .i64 (IntKind.i64.wrap (x80 + 1))) rfl) (wl_nil ?_)))))))))))
            exact ⟨k91, Nat.lt_succ_self _, _, _, _, _, Nat.le_of_succ_le hk92, E, upds_eq ⟨rfl, rfl, rfl, rfl, rfl, rfl, rfl, rfl, rfl, rfl, rfl, rfl, rfl, rfl, trivial⟩, H⟩
          · have E := iF c103 E
            refine wc_skip (n_bk (n_thn (wc_region (v_ rfl (mv (.int .i64 x80) rfl) (v_ rfl (r_add rfl rfl) (v_ rfl (sg (.int .i64 (IntKind.i64.wrap (x80 + 1))) rfl) (wl_nil ?_)))))))
            exact ⟨k91, Nat.lt_succ_self _, _, _, _, _, Nat.le_of_succ_le hk92, E, upds_eq ⟨rfl, rfl, rfl, rfl, rfl, rfl, rfl, rfl, rfl, rfl, rfl, rfl, rfl, rfl, trivial⟩, H⟩
      · have E := iF c95 E
        refine wc_exit (x_thn (x_thn (x_bk ?_)))
        exact ⟨k91, _, _, _, by omega, E, upds_eq ⟨rfl, rfl, rfl, rfl, rfl, rfl, rfl, rfl, rfl, rfl, rfl, trivial⟩, H⟩
    rintro t w ⟨k66, x63, x64, t65, hk67, E, rfl, H⟩
    unfold law23_NoiseTally.j0 at E
    refine wc_seqJ (fun t w => ∃ (k161 : Nat) (x158 : Int) (x159 : Int) (t160 : Fr), k161 ≤ k66 ∧ law23_NoiseTally.j1 k161 x7 x10 x12 x19 x23 x158 x159 = some r ∧ t = upds t160 [(16, .bool false), (17, .pointer (some ⟨b9, 0, none⟩)), (18, .int .i64 x10), (19, v14), (23, v21), (24, .bool x19.2), (25, v25), (26, .bool x23.2), (27, .int .i64 x158), (28, .int .i64 x159), (1000000, undef)] ∧ St no w0 w [.blk b9 #[.int .i64 x7.1, .int .i64 x7.2.1, .int .i64 x7.2.2] 23, .own (.int .u8) 5 v14 x12.1, .own (.int .u8) 5 v17 x15.1, .own (.int .i64) 3 v18 x15.2, .rows (.int .i64) 3 44 v21 us22 x19.1, .rows (.int .i64) 3 44 v25 us26 x23.1]) ?_ ?_
    · refine rg (v_ rfl (sg (.int .i64 0) rfl) (nl (wc_block ?_)))
      refine wc_loop (fun kk t w => ∃ (x179 : Int) (x180 : Int) (x181 : Int) (t200 : Fr), kk ≤ k66 ∧ law23_NoiseTally.l1 kk x7 x10 x12 x19 x23 x179 x180 x181 = some r ∧ t = upds t200 [(16, .bool false), (17, .pointer (some ⟨b9, 0, none⟩)), (18, .int .i64 x10), (19, v14), (23, v21), (24, .bool x19.2), (25, v25), (26, .bool x23.2), (27, .int .i64 x179), (28, .int .i64 x180), (30, .int .i64 x181), (1000000, undef)] ∧ St no w0 w [.blk b9 #[.int .i64 x7.1, .int .i64 x7.2.1, .int .i64 x7.2.2] 23, .own (.int .u8) 5 v14 x12.1, .own (.int .u8) 5 v17 x15.1, .own (.int .i64) 3 v18 x15.2, .rows (.int .i64) 3 44 v21 us22 x19.1, .rows (.int .i64) 3 44 v25 us26 x23.1]) k66 ?_ ?_
      · exact ⟨_, _, _, _, Nat.le_refl _, E, upds_eq ⟨rfl, rfl, rfl, rfl, rfl, rfl, rfl, rfl, rfl, rfl, rfl, rfl, trivial⟩, H⟩
      rintro kk t w ⟨x179, x180, x181, t200, hk199, E, rfl, H⟩
      obtain ⟨k198, rfl⟩ | rfl : (∃ k', kk = k' + 1) ∨ kk = 0 := by cases kk; exact .inr rfl; exact .inl ⟨_, rfl⟩
      rotate_left
      · cases E
      rw [law23_NoiseTally.l1] at E
      refine wc_seq (rg (v_ rfl (mv (.int .i64 x181) rfl) (v_ rfl (mv v21 rfl) (v_ rfl (r_lenR ul_53 (rows_rd (H.get 4 rfl)) rfl) (v_ rfl (r_lss rfl rfl) (nl ?_))))))
      refine wc_cond rfl (fun c202 => ?_) (fun c202 => ?_)
      · have E := iT c202 E
        refine wc_skip (n_thn (wc_seq (wc_block (wc_seq (rg (v_ rfl (mv v21 rfl) (v_ rfl (mv (.int .i64 x181) rfl) ?_)))))))
        obtain ⟨⟨g206, g207⟩, E⟩ := grd_some E
        refine v_ rfl (r_idx sl_53 (rows_rd (H.get 4 rfl)) rfl rfl g206 g207) (v_ rfl (r_ldRow sc_44 (H.get 4 rfl) g206 g207 rfl) (v_ rfl (r_lenR ul_44 (row_rd (H.get 4 rfl) g206 g207) rfl) (v_ rfl (r_neq rfl rfl) (nl ?_))))
        refine wc_cond rfl (fun c208 => ?_) (fun c208 => ?_)
        · have E := iT c208 E
          refine rg (v_ rfl (sg (.bool false) rfl) (nl (wc_ret ?_)))
          cases E
          exact (r_thn (r_bk (r_thn (r_thn (r_bk (r_thn ⟨.inl rfl, _, tk0 rfl ⟨resN rfl (rv_t rv_nil), rfl, H.sub0⟩⟩))))))
        · have E := iF c208 E
          refine wc_skip (n_thn (rg (v_ rfl (mv (.int .i64 x179) rfl) (v_ rfl (mv v21 rfl) (v_ rfl (mv (.int .i64 x181) rfl) ?_)))))
          obtain ⟨⟨g209, g210⟩, E⟩ := grd_some E
          refine v_ rfl (r_idx sl_53 (rows_rd (H.get 4 rfl)) rfl rfl g209 g210) (v_ rfl (r_ldRow sc_44 (H.get 4 rfl) g209 g210 rfl) ?_)
          obtain ⟨⟨g211, g212⟩, E⟩ := grd_some E
          refine v_ rfl (r_idx sl_44 (row_rd (H.get 4 rfl) g209 g210) rfl rfl g211 g212) (v_ rfl (r_ldI sc_3 (row_rd (H.get 4 rfl) g209 g210) g211 g212 rfl) (v_ rfl (r_sub rfl rfl) (v_ rfl (sg (.int .i64 (IntKind.i64.wrap (x179 - (at_ 0 (at_ [] x19.1 x181) 0)))) rfl) (nl (wc_region (v_ rfl (mv (.int .i64 x180) rfl) (v_ rfl (mv v21 rfl) (v_ rfl (mv (.int .i64 x181) rfl) ?_))))))))
          obtain ⟨⟨g213, g214⟩, E⟩ := grd_some E
          refine v_ rfl (r_idx sl_53 (rows_rd (H.get 4 rfl)) rfl rfl g213 g214) (v_ rfl (r_ldRow sc_44 (H.get 4 rfl) g213 g214 rfl) ?_)
          obtain ⟨⟨g215, g216⟩, E⟩ := grd_some E
          refine v_ rfl (r_idx sl_44 (row_rd (H.get 4 rfl) g213 g214) rfl rfl g215 g216) (v_ rfl (r_ldI sc_3 (row_rd (H.get 4 rfl) g213 g214) g215 g216 rfl) (v_ rfl (r_sub rfl rfl) (v_ rfl (sg (.int .i64 (IntKind.i64.wrap (x180 - (at_ 0 (at_ [] x19.1 x181) 1)))) rfl) (wl_nil (n_bk (n_thn (wc_region (v_ rfl (mv (.int .i64 x181) rfl) (v_ rfl (r_add rfl rfl) (v_ rfl (sg (.int .i64 (IntKind.i64.wrap (x181 + 1))) rfl) (wl_nil ?_)))))))))))
          exact ⟨k198, Nat.lt_succ_self _, _, _, _, _, Nat.le_of_succ_le hk199, E, upds_eq ⟨rfl, rfl, rfl, rfl, rfl, rfl, rfl, rfl, rfl, rfl, rfl, rfl, trivial⟩, H⟩
      · have E := iF c202 E
        refine wc_exit (x_thn (x_thn (x_bk ?_)))
        exact ⟨k198, _, _, _, by omega, E, upds_eq ⟨rfl, rfl, rfl, rfl, rfl, rfl, rfl, rfl, rfl, rfl, rfl, trivial⟩, H⟩
    rintro t w ⟨k161, x158, x159, t160, hk162, E, rfl, H⟩
    unfold law23_NoiseTally.j1 at E
    refine wc_seq (wc_drawnS (ds := []) mo H rfl rfl ?_)
    have H := H.drew
    refine wa_take (i := 0) (l' := #[true, false, false, false, false, false, false, false, false, false, false, false, false, false]) rfl rfl rfl (by kernel_rfl) H (fun w H => (r_loadB (l := [.int .i64 x7.1, .int .i64 x7.2.1, .int .i64 x7.2.2]) ag_23 (H.get 0 rfl) rfl rfl rfl)) (wa_take (i := 1) (l' := #[true, true, false, false, false, false, false, false, false, false, false, false, false, false]) rfl rfl rfl (by kernel_rfl) H (fun w H => (mv (.int .i64 x10) rfl)) (wa_take (i := 2) (l' := #[true, true, true, false, false, false, false, false, false, false, false, false, false, false]) rfl rfl rfl (by kernel_rfl) H (fun w H => (mv v14 rfl)) (wa_take (i := 3) (l' := #[true, true, true, true, false, false, false, false, false, false, false, false, false, false]) rfl rfl rfl (by kernel_rfl) H (fun w H => (mv v14 rfl)) (wa_take (i := 4) (l' := #[true, true, true, true, true, false, false, false, false, false, false, false, false, false]) rfl rfl rfl (by kernel_rfl) H (fun w H => (mv v14 rfl)) (wa_take (i := 5) (l' := #[true, true, true, true, true, true, false, false, false, false, false, false, false, false]) rfl rfl rfl (by kernel_rfl) H (fun w H => (r_lenR ul_42 (own_rd (H.get 1 rfl)) rfl)) (wa_take (i := 6) (l' := #[true, true, true, true, true, true, true, false, false, false, false, false, false, false]) rfl rfl rfl (by kernel_rfl) H (fun w H => (r_sub rfl rfl)) ?_))))))
    obtain ⟨⟨g217, g218⟩, E⟩ := grd_some E
    have p220 : 0 ≤ (IntKind.i64.wrap ((x12.1.length : Int) - 1)).toNat := by omega
    have p221 : (IntKind.i64.wrap ((x12.1.length : Int) - 1)).toNat ≤ x12.1.length := by omega
    refine wa_take (i := 7) (l' := #[true, true, true, true, true, true, true, true, false, false, false, false, false, false]) rfl rfl rfl (by kernel_rfl) H (fun w H => (r_slcHR sl_42 (own_rd (H.get 1 rfl)) rfl rfl g217 g218)) ?_
    obtain ⟨x222, E223, E⟩ := bind_some E
    refine wa_one (i := 8) (l' := #[true, true, true, true, true, true, true, true, true, false, false, false, false, false]) rfl rfl rfl (by kernel_rfl) (y_callL en_28 rfl ((noise_Tally.calls (H.own 1 rfl (own_rd (H.get 1 rfl))) (H.own 1 rfl (Rd.slv (own_rd (H.get 1 rfl)) p220 p221)) (Rd.nil (.of (.int .i64)) _ _) E223).mono ?_))
    rintro _ w ⟨v224, us225, rfl, K⟩
    have H := H.app K
    refine ⟨_, rfl, ⟨fun _ => H.sel [0, 1, 2, 3, 4, 5] rfl rfl, (wa_take (i := 9) (l' := #[true, true, true, true, true, true, true, true, true, true, false, false, false, false]) rfl rfl rfl (by kernel_rfl) (H.sel [0, 1, 2, 3, 4, 5] rfl rfl) (fun w H => (r_move)) (wa_take (i := 10) (l' := #[true, true, true, true, true, true, true, true, true, true, true, false, false, false]) rfl rfl rfl (by kernel_rfl) (H.sel [0, 1, 2, 3, 4, 5] rfl rfl) (fun w H => (r_extract rfl rfl)) (wa_take (i := 11) (l' := #[true, true, true, true, true, true, true, true, true, true, true, true, false, false]) rfl rfl rfl (by kernel_rfl) (H.sel [0, 1, 2, 3, 4, 5] rfl rfl) (fun w H => (r_extract rfl rfl)) (wa_oneV (i := 12) (l' := #[true, true, true, true, true, true, true, true, true, true, true, true, true, false]) rfl rfl rfl (by kernel_rfl) ((H.sel [0, 1, 2, 3, 4, 5] rfl rfl)) (sg v224 rfl) (wa_take (i := 13) (l' := #[true, true, true, true, true, true, true, true, true, true, true, true, true, true]) rfl rfl rfl (by kernel_rfl) (H.sel [0, 1, 2, 3, 4, 5] rfl rfl) (fun w H => (sg (.bool x222.2) rfl)) (wa_done (by kernel_rfl) (n_thn (rg ?_))))))))⟩⟩
    obtain ⟨x226, E227, E⟩ := bind_some E
    refine e_ rfl (y_callL en_18 rfl ((law23_known.calls E227).mono ?_))
    rintro _ w ⟨rfl, K⟩
    have H := H.app K
    refine ⟨_, rfl, (v_ rfl (mv (.bool x226) rfl) ?_)⟩
    rcases Bool.eq_false_or_eq_true (x226) with c228 | c228
    · have E := iT c228 E
      refine on_ c228 rfl rfl (mv (.bool x19.2) rfl) (v_ rfl (pT (.bool x19.2) rfl rfl c228) (v_ rfl (mv (.bool x19.2) rfl) ?_))
      rcases Bool.eq_false_or_eq_true (x19.2) with c229 | c229
      · have E := iT c229 E
        refine on_ c229 rfl rfl (mv (.bool x23.2) rfl) (v_ rfl (pT (.bool x23.2) rfl rfl c229) (v_ rfl (mv (.bool x23.2) rfl) ?_))
        rcases Bool.eq_false_or_eq_true (x23.2) with c230 | c230
        · have E := iT c230 E
          refine on_ c230 rfl rfl (mv (.int .i64 x158) rfl) (on_ c230 rfl rfl (r_eql rfl rfl) (v_ rfl (pT (.bool (decide (x158 = 0))) rfl rfl c230) (v_ rfl (mv (.bool (decide (x158 = 0))) rfl) ?_)))
          rcases Bool.eq_false_or_eq_true (decide (x158 = 0)) with c231 | c231
          · have E := iT c231 E
            refine on_ c231 rfl rfl (mv (.int .i64 x159) rfl) (on_ c231 rfl rfl (r_eql rfl rfl) (v_ rfl (pT (.bool (decide (x159 = 0))) rfl rfl c231) (v_ rfl (mv (.bool (decide (x159 = 0))) rfl) ?_)))
            rcases Bool.eq_false_or_eq_true (decide (x159 = 0)) with c232 | c232
            · have E := iT c232 E
              refine on_ c232 rfl rfl (r_loadB (l := [.int .i64 x7.1, .int .i64 x7.2.1, .int .i64 x7.2.2]) ag_23 (H.get 0 rfl) rfl rfl rfl) (on_ c232 rfl rfl (mv v25 rfl) ?_)
              obtain ⟨x233, E234, E⟩ := bind_some E
              refine wl_on rfl c232 rfl (y_callL en_23 rfl ((noise_Bears.calls (H.own 5 rfl (rows_rd (H.get 5 rfl))) E234).mono ?_))
              rintro _ w ⟨rfl, K⟩
              have H := H.app K
              refine ⟨_, rfl, (v_ rfl (pT (.bool x233) rfl rfl c232) (v_ rfl (mv (.bool x233) rfl) ?_))⟩
              rcases Bool.eq_false_or_eq_true (x233) with c235 | c235
              · have E := iT c235 E
                refine on_ c235 rfl rfl (mv (.bool x222.2) rfl) (on_ c235 rfl rfl (r_not rfl) (v_ rfl (pT (.bool (!x222.2)) rfl rfl c235) (v_ rfl (mv (.bool (!x222.2)) rfl) ?_)))
                rcases Bool.eq_false_or_eq_true (!x222.2) with c236 | c236
                · have E := iT c236 E
                  refine on_ c236 rfl rfl (mv v21 rfl) (on_ c236 rfl rfl (r_lenR ul_53 (rows_rd (H.get 4 rfl)) rfl) (on_ c236 rfl rfl (mv v14 rfl) (on_ c236 rfl rfl (r_lenR ul_42 (own_rd (H.get 1 rfl)) rfl) (on_ c236 rfl rfl (r_sub rfl rfl) (on_ c236 rfl rfl (r_faddr fa_23_0 rfl) (on_ c236 rfl rfl (r_load sc_3 rfl (blk_cell (H.get 0 rfl) rfl)) ?_))))))
                  obtain ⟨g237, E⟩ := grd_some E
                  refine on_ c236 rfl rfl (r_quo rfl rfl g237) (on_ c236 rfl rfl (r_eql rfl rfl) (v_ rfl (pT (.bool (decide ((x19.1.length : Int) = IntKind.i64.wrap (Int.tdiv (IntKind.i64.wrap ((x12.1.length : Int) - 10)) x7.1)))) rfl rfl c236) (v_ rfl (sg (.bool (decide ((x19.1.length : Int) = IntKind.i64.wrap (Int.tdiv (IntKind.i64.wrap ((x12.1.length : Int) - 10)) x7.1)))) rfl) (nl (wc_ret ?_)))))
                  cases E
                  exact ⟨.inl rfl, _, tk0 rfl ⟨resN rfl (rv_t rv_nil), rfl, H.sub0⟩⟩
                · have E := iF c236 E
                  refine off_ c236 rfl rfl rfl (off_ c236 rfl rfl rfl (off_ c236 rfl rfl rfl (off_ c236 rfl rfl rfl (off_ c236 rfl rfl rfl (off_ c236 rfl rfl rfl (off_ c236 rfl rfl rfl (off_ c236 rfl rfl rfl (off_ c236 rfl rfl rfl (v_ rfl (pF (.bool false) rfl rfl c236) (v_ rfl (sg (.bool false) rfl) (nl (wc_ret ?_))))))))))))
                  cases E
                  exact ⟨.inl rfl, _, tk0 rfl ⟨resN rfl (rv_t rv_nil), rfl, H.sub0⟩⟩
              · have E := iF c235 E
                refine off_ c235 rfl rfl rfl (off_ c235 rfl rfl rfl (v_ rfl (pF (.bool false) rfl rfl c235) (v_ rfl (mv (.bool false) rfl) (off_ rfl rfl rfl rfl (off_ rfl rfl rfl rfl (off_ rfl rfl rfl rfl (off_ rfl rfl rfl rfl (off_ rfl rfl rfl rfl (off_ rfl rfl rfl rfl (off_ rfl rfl rfl rfl (off_ rfl rfl rfl rfl (off_ rfl rfl rfl rfl (v_ rfl (pF (.bool false) rfl rfl rfl) (v_ rfl (sg (.bool false) rfl) (nl (wc_ret ?_))))))))))))))))
                cases E
                exact ⟨.inl rfl, _, tk0 rfl ⟨resN rfl (rv_t rv_nil), rfl, H.sub0⟩⟩
            · have E := iF c232 E
              refine off_ c232 rfl rfl rfl (off_ c232 rfl rfl rfl (off_ c232 rfl rfl rfl (v_ rfl (pF (.bool false) rfl rfl c232) (v_ rfl (mv (.bool false) rfl) (off_ rfl rfl rfl rfl (off_ rfl rfl rfl rfl (v_ rfl (pF (.bool false) rfl rfl rfl) (v_ rfl (mv (.bool false) rfl) (off_ rfl rfl rfl rfl (off_ rfl rfl rfl rfl (off_ rfl rfl rfl rfl (off_ rfl rfl rfl rfl (off_ rfl rfl rfl rfl (off_ rfl rfl rfl rfl (off_ rfl rfl rfl rfl (off_ rfl rfl rfl rfl (off_ rfl rfl rfl rfl (v_ rfl (pF (.bool false) rfl rfl rfl) (v_ rfl (sg (.bool false) rfl) (nl (wc_ret ?_)))))))))))))))))))))
              cases E
              exact ⟨.inl rfl, _, tk0 rfl ⟨resN rfl (rv_t rv_nil), rfl, H.sub0⟩⟩
          · have E := iF c231 E
            refine off_ c231 rfl rfl rfl (off_ c231 rfl rfl rfl (v_ rfl (pF (.bool false) rfl rfl c231) (v_ rfl (mv (.bool false) rfl) (off_ rfl rfl rfl rfl (off_ rfl rfl rfl rfl (off_ rfl rfl rfl rfl (v_ rfl (pF (.bool false) rfl rfl rfl) (v_ rfl (mv (.bool false) rfl) (off_ rfl rfl rfl rfl (off_ rfl rfl rfl rfl (v_ rfl (pF (.bool false) rfl rfl rfl) (v_ rfl (mv (.bool false) rfl) (off_ rfl rfl rfl rfl (off_ rfl rfl rfl rfl (off_ rfl rfl rfl rfl (off_ rfl rfl rfl rfl (off_ rfl rfl rfl rfl (off_ rfl rfl rfl rfl (off_ rfl rfl rfl rfl (off_ rfl rfl rfl rfl (off_ rfl rfl rfl rfl (v_ rfl (pF (.bool false) rfl rfl rfl) (v_ rfl (sg (.bool false) rfl) (nl (wc_ret ?_)))))))))))))))))))))))))
            cases E
            exact ⟨.inl rfl, _, tk0 rfl ⟨resN rfl (rv_t rv_nil), rfl, H.sub0⟩⟩
        · have E := iF c230 E
          refine off_ c230 rfl rfl rfl (off_ c230 rfl rfl rfl (v_ rfl (pF (.bool false) rfl rfl c230) (v_ rfl (mv (.bool false) rfl) (off_ rfl rfl rfl rfl (off_ rfl rfl rfl rfl (v_ rfl (pF (.bool false) rfl rfl rfl) (v_ rfl (mv (.bool false) rfl) (off_ rfl rfl rfl rfl (off_ rfl rfl rfl rfl (off_ rfl rfl rfl rfl (v_ rfl (pF (.bool false) rfl rfl rfl) (v_ rfl (mv (.bool false) rfl) (off_ rfl rfl rfl rfl (off_ rfl rfl rfl rfl (v_ rfl (pF (.bool false) rfl rfl rfl) (v_ rfl (mv (.bool false) rfl) (off_ rfl rfl rfl rfl (off_ rfl rfl rfl rfl (off_ rfl rfl rfl rfl (off_ rfl rfl rfl rfl (off_ rfl rfl rfl rfl (off_ rfl rfl rfl rfl (off_ rfl rfl rfl rfl (off_ rfl rfl rfl rfl (off_ rfl rfl rfl rfl (v_ rfl (pF (.bool false) rfl rfl rfl) (v_ rfl (sg (.bool false) rfl) (nl (wc_ret ?_)))))))))))))))))))))))))))))
          cases E
          exact ⟨.inl rfl, _, tk0 rfl ⟨resN rfl (rv_t rv_nil), rfl, H.sub0⟩⟩
      · have E := iF c229 E
        refine off_ c229 rfl rfl rfl (v_ rfl (pF (.bool false) rfl rfl c229) (v_ rfl (mv (.bool false) rfl) (off_ rfl rfl rfl rfl (off_ rfl rfl rfl rfl (v_ rfl (pF (.bool false) rfl rfl rfl) (v_ rfl (mv (.bool false) rfl) (off_ rfl rfl rfl rfl (off_ rfl rfl rfl rfl (v_ rfl (pF (.bool false) rfl rfl rfl) (v_ rfl (mv (.bool false) rfl) (off_ rfl rfl rfl rfl (off_ rfl rfl rfl rfl (off_ rfl rfl rfl rfl (v_ rfl (pF (.bool false) rfl rfl rfl) (v_ rfl (mv (.bool false) rfl) (off_ rfl rfl rfl rfl (off_ rfl rfl rfl rfl (v_ rfl (pF (.bool false) rfl rfl rfl) (v_ rfl (mv (.bool false) rfl) (off_ rfl rfl rfl rfl (off_ rfl rfl rfl rfl (off_ rfl rfl rfl rfl (off_ rfl rfl rfl rfl (off_ rfl rfl rfl rfl (off_ rfl rfl rfl rfl (off_ rfl rfl rfl rfl (off_ rfl rfl rfl rfl (off_ rfl rfl rfl rfl (v_ rfl (pF (.bool false) rfl rfl rfl) (v_ rfl (sg (.bool false) rfl) (nl (wc_ret ?_))))))))))))))))))))))))))))))))
        cases E
        exact ⟨.inl rfl, _, tk0 rfl ⟨resN rfl (rv_t rv_nil), rfl, H.sub0⟩⟩
    · have E := iF c228 E
      refine off_ c228 rfl rfl rfl (v_ rfl (pF (.bool false) rfl rfl c228) (v_ rfl (mv (.bool false) rfl) (off_ rfl rfl rfl rfl (v_ rfl (pF (.bool false) rfl rfl rfl) (v_ rfl (mv (.bool false) rfl) (off_ rfl rfl rfl rfl (off_ rfl rfl rfl rfl (v_ rfl (pF (.bool false) rfl rfl rfl) (v_ rfl (mv (.bool false) rfl) (off_ rfl rfl rfl rfl (off_ rfl rfl rfl rfl (v_ rfl (pF (.bool false) rfl rfl rfl) (v_ rfl (mv (.bool false) rfl) (off_ rfl rfl rfl rfl (off_ rfl rfl rfl rfl (off_ rfl rfl rfl rfl (v_ rfl (pF (.bool false) rfl rfl rfl) (v_ rfl (mv (.bool false) rfl) (off_ rfl rfl rfl rfl (off_ rfl rfl rfl rfl (v_ rfl (pF (.bool false) rfl rfl rfl) (v_ rfl (mv (.bool false) rfl) (off_ rfl rfl rfl rfl (off_ rfl rfl rfl rfl (off_ rfl rfl rfl rfl (off_ rfl rfl rfl rfl (off_ rfl rfl rfl rfl (off_ rfl rfl rfl rfl (off_ rfl rfl rfl rfl (off_ rfl rfl rfl rfl (off_ rfl rfl rfl rfl (v_ rfl (pF (.bool false) rfl rfl rfl) (v_ rfl (sg (.bool false) rfl) (nl (wc_ret ?_)))))))))))))))))))))))))))))))))))
      cases E
      exact ⟨.inl rfl, _, tk0 rfl ⟨resN rfl (rv_t rv_nil), rfl, H.sub0⟩⟩
end Go.Proofs.Ythfhhnlnlcbckaa.Gw
