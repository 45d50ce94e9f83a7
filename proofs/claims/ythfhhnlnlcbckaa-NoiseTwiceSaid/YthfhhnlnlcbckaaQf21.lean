/- erratum/erratumref01.Ints -/
/- PRINTED by gwmain.py of this project. -/
import Derived.Test.YthfhhnlnlcbckaaQ0
namespace Go.Proofs.Ythfhhnlnlcbckaa.Gw
open Go Go.RowKit
set_option linter.unusedVariables false
set_option linter.unusedSimpArgs false
def ref01_Ints.l0 : Nat → List Int → List Int → Int → Option (Bool)
  | 0, _, _, _ => none
  | k + 1, a0, a1, x10 => bif decide (x10 < (a0.length : Int)) then (grd (decide ((0 : Int) ≤ x10 ∧ x10 < (a0.length : Int))) (grd (decide ((0 : Int) ≤ x10 ∧ x10 < (a1.length : Int))) (bif !decide (at_ 0 a0 x10 = at_ 0 a1 x10) then (some false) else (ref01_Ints.l0 k a0 a1 (IntKind.i64.wrap (x10 + 1)))))) else (some true)
def ref01_Ints.f (k : Nat) (a0 : List Int) (a1 : List Int) : Option (Bool) := bif !decide ((a0.length : Int) = (a1.length : Int)) then (some false) else (ref01_Ints.l0 k a0 a1 0)
set_option maxRecDepth 100000 in
set_option maxHeartbeats 4000000 in
theorem ref01_Ints.calls {w0 : World} {k : Nat} {a0 : List Int} {a1 : List Int} {v0_ : Value} {v1_ : Value} {r : Bool} (h0 : Rd (.of (.int .i64)) w0 (Ol no w0) v0_ a0) (h1 : Rd (.of (.int .i64)) w0 (Ol no w0) v1_ a1) (E : ref01_Ints.f k a0 a1 = some r) :
    Calls Try.prog 21 #[v0_, v1_] w0 fun e w' => e = .returned (.bool r) ∧ St no w0 w' [] := by
  have H := St.nil no w0
  unfold ref01_Ints.f at E
  refine calls_of_wc (N := 26) (args := [v0_, v1_]) Try.func21 rfl rfl (by simp) ?_
  refine rg (v_ rfl (sg (.bool false) rfl) (nl (wc_seq (rg (v_ rfl (mv v0_ rfl) (v_ rfl (r_lenR ul_44 (H.rd h0) rfl) (v_ rfl (mv v1_ rfl) (v_ rfl (r_lenR ul_44 (H.rd h1) rfl) (v_ rfl (r_neq rfl rfl) (nl ?_))))))))))
  refine wc_cond rfl (fun c2 => ?_) (fun c2 => ?_)
  · have E := iT c2 E
    refine rg (v_ rfl (sg (.bool false) rfl) (nl (wc_ret ?_)))
    cases E
    exact (r_thn ⟨.inl rfl, _, resN rfl (rv_t rv_nil), rfl, H.sub0⟩)
  · have E := iF c2 E
    refine wc_skip (n_thn (wc_seq (rg (v_ rfl (sg (.int .i64 0) rfl) (nl (wc_block ?_))))))
    refine wc_loop (fun kk t w => ∃ (x10 : Int) (t20 : Fr), kk ≤ k ∧ ref01_Ints.l0 kk a0 a1 x10 = some r ∧ t = upds t20 [(0, v0_), (1, v1_), (4, .bool false), (5, .int .i64 x10)] ∧ St no w0 w []) k ?_ ?_
    · exact ⟨_, _, Nat.le_refl _, E, upds_eq ⟨rfl, rfl, rfl, rfl, trivial⟩, H⟩
    rintro kk t w ⟨x10, t20, hk19, E, rfl, H⟩
    obtain ⟨k18, rfl⟩ | rfl : (∃ k', kk = k' + 1) ∨ kk = 0 := by cases kk; exact .inr rfl; exact .inl ⟨_, rfl⟩
    rotate_left
    · cases E
    rw [ref01_Ints.l0] at E
    refine wc_seq (rg (v_ rfl (mv (.int .i64 x10) rfl) (v_ rfl (mv v0_ rfl) (v_ rfl (r_lenR ul_44 (H.rd h0) rfl) (v_ rfl (r_lss rfl rfl) (nl ?_))))))
    refine wc_cond rfl (fun c22 => ?_) (fun c22 => ?_)
    · have E := iT c22 E
      refine wc_skip (n_thn (wc_seq (wc_block (wc_seq (wc_drawnS (ds := []) mo H rfl rfl ?_)))))
      have H := H.drew
      refine wa_take (i := 0) (l' := #[true, false, false, false, false, false, false, false, false]) rfl rfl rfl (by kernel_rfl) H (fun w H => (mv v0_ rfl)) (wa_take (i := 1) (l' := #[true, true, false, false, false, false, false, false, false]) rfl rfl rfl (by kernel_rfl) H (fun w H => (mv (.int .i64 x10) rfl)) ?_)
      obtain ⟨⟨g23, g24⟩, E⟩ := grd_some E
      refine wa_take (i := 2) (l' := #[true, true, true, false, false, false, false, false, false]) rfl rfl rfl (by kernel_rfl) H (fun w H => (r_idx sl_44 (H.rd h0) rfl rfl g23 g24)) (wa_take (i := 3) (l' := #[true, true, true, true, false, false, false, false, false]) rfl rfl rfl (by kernel_rfl) H (fun w H => (r_ldI sc_3 (H.rd h0) g23 g24 rfl)) (wa_take (i := 4) (l' := #[true, true, true, true, true, false, false, false, false]) rfl rfl rfl (by kernel_rfl) H (fun w H => (mv v1_ rfl)) (wa_take (i := 5) (l' := #[true, true, true, true, true, true, false, false, false]) rfl rfl rfl (by kernel_rfl) H (fun w H => (mv (.int .i64 x10) rfl)) ?_)))
      obtain ⟨⟨g25, g26⟩, E⟩ := grd_some E
      refine wa_take (i := 6) (l' := #[true, true, true, true, true, true, true, false, false]) rfl rfl rfl (by kernel_rfl) H (fun w H => (r_idx sl_44 (H.rd h1) rfl rfl g25 g26)) (wa_take (i := 7) (l' := #[true, true, true, true, true, true, true, true, false]) rfl rfl rfl (by kernel_rfl) H (fun w H => (r_ldI sc_3 (H.rd h1) g25 g26 rfl)) (wa_take (i := 8) (l' := #[true, true, true, true, true, true, true, true, true]) rfl rfl rfl (by kernel_rfl) H (fun w H => (r_neq rfl rfl)) (wa_done (by kernel_rfl) (n_thn ?_))))
      refine wc_cond rfl (fun c27 => ?_) (fun c27 => ?_)
      · have E := iT c27 E
        refine rg (v_ rfl (sg (.bool false) rfl) (nl (wc_ret ?_)))
        cases E
        exact (r_bk (r_thn (r_thn (r_bk (r_thn ⟨.inl rfl, _, resN rfl (rv_t rv_nil), rfl, H.sub0⟩)))))
      · have E := iF c27 E
        refine wc_skip (n_bk (n_thn (wc_region (v_ rfl (mv (.int .i64 x10) rfl) (v_ rfl (r_add rfl rfl) (v_ rfl (sg (.int .i64 (IntKind.i64.wrap (x10 + 1))) rfl) (wl_nil ?_)))))))
        exact ⟨k18, Nat.lt_succ_self _, _, _, Nat.le_of_succ_le hk19, E, upds_eq ⟨rfl, rfl, rfl, rfl, trivial⟩, H⟩
    · have E := iF c22 E
      refine wc_exit (x_thn (x_thn (x_bk (n_thn (rg (v_ rfl (sg (.bool true) rfl) (nl (wc_ret ?_))))))))
      cases E
      exact ⟨.inl rfl, _, resN rfl (rv_t rv_nil), rfl, H.sub0⟩
end Go.Proofs.Ythfhhnlnlcbckaa.Gw
